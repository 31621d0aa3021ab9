/- Contracts of functions: what each call hands back, and that it leaves all that was there as it was. -/
import Derived.Test.YtlnjmkmhmbijmaaGreatRd
set_option maxRecDepth 4000
set_option linter.all false
namespace Go.Proofs.YtlnjmkmhmbijmaaGreat
open Go.RowKit
/-- how many bytes the records ahead of the i-th one have -/
def fromL (rs : List Rec) (i : Nat) : Nat := (bytesL (rs.take i)).length
theorem bytesL_cons (r : Rec) (rs : List Rec) : bytesL (r :: rs) = recB r ++ bytesL rs := rfl
theorem bytesL_append (a b : List Rec) : bytesL (a ++ b) = bytesL a ++ bytesL b := List.flatMap_append
theorem recB_len (r : Rec) : (recB r).length = (packL r.2).length + 8 := frameL_length _ _
theorem fromL_succ {rs : List Rec} {i : Nat} {r : Rec} (h : rs[i]? = some r) : fromL rs (i + 1) = fromL rs i + (packL r.2).length + 8 := by
  unfold fromL
  have hi := (List.getElem?_eq_some_iff.1 h)
  obtain ⟨hi, hr⟩ := hi
  rw [List.take_succ_eq_append_getElem hi, hr, bytesL_append, List.length_append, bytesL_cons, List.length_append, recB_len]
  simp [bytesL]; omega
theorem xor_ne {a m : BitVec 8} (h : m ≠ 0#8) : a ^^^ m ≠ a := by
  intro e
  apply h
  have := xor_inj (a := a) (x := m) (y := 0#8) (by rw [e]; simp)
  exact this
theorem one_shl_ne {k : Nat} (h : k < 8) : (1#8 <<< k) ≠ 0#8 := by
  have : ∀ j : Fin 8, (1#8 <<< j.val) ≠ 0#8 := by decide
  exact this ⟨k, h⟩
/-- bytes of records of which one byte was changed -/
theorem spoilt {rs : List Rec} {i p : Nat} {r : Rec} {c : BitVec 8} (h : rs[i]? = some r) (h1 : fromL rs i ≤ p) (h2 : p < fromL rs i + (packL r.2).length + 8) :
    (bytesL rs).set p c = bytesL (rs.take i) ++ ((recB r).set (p - fromL rs i) c ++ bytesL (rs.drop (i + 1))) := by
  obtain ⟨hi, hr⟩ := List.getElem?_eq_some_iff.1 h
  have e : bytesL rs = bytesL (rs.take i) ++ (recB r ++ bytesL (rs.drop (i + 1))) := by
    rw [← bytesL_cons, ← bytesL_append, ← hr, ← List.drop_eq_getElem_cons hi, List.take_append_drop]
  rw [e, List.set_append_right _ _ (by exact h1), List.set_append_left _ _ (by rw [recB_len]; show p - fromL rs i < _; omega)]
  rfl
theorem spoilt_bad {rs : List Rec} {i p : Nat} {r : Rec} {m : BitVec 8} {t : List (BitVec 8)} {a : BitVec 8} (h : rs[i]? = some r) (hok : okR r) (h1 : fromL rs i ≤ p) (h2 : p < fromL rs i + (packL r.2).length + 8) (h3 : p - fromL rs i ≠ 2) (h4 : p - fromL rs i ≠ 3)
    (ha : (bytesL rs)[p]? = some a) (hm : m ≠ 0#8) : (getF ((recB r).set (p - fromL rs i) (a ^^^ m) ++ t)).2.2 ≠ 0 := by
  obtain ⟨hi, hr⟩ := List.getElem?_eq_some_iff.1 h
  have e : bytesL rs = bytesL (rs.take i) ++ (recB r ++ bytesL (rs.drop (i + 1))) := by
    rw [← bytesL_cons, ← bytesL_append, ← hr, ← List.drop_eq_getElem_cons hi, List.take_append_drop]
  have hl := packL_len hok.2.2
  have h5 := hok.2.1
  refine getF_bad (by omega) (by omega) h3 h4 ?_
  rw [e, List.getElem?_append_right (by exact h1), List.getElem?_append_left (by rw [recB_len]; show p - fromL rs i < _; omega)] at ha
  show (recB r)[p - fromL rs i]? ≠ _
  have ha' : (recB r)[p - fromL rs i]? = some a := ha
  rw [ha']
  intro e2
  exact xor_ne hm (Option.some.inj e2).symm
theorem fromL_all {rs : List Rec} : fromL rs rs.length = (bytesL rs).length := by unfold fromL; rw [List.take_length]

def saveE (b : ABallot) (l : ALog) : Int := if (((!bMayL b || !lMayL l) || (!decide (l.Base = 0))) || l.L.any fun e => (numsZ 0 e).any fun z => decide (sizeZ z < 0)) = true then 1 else if 65536 < (bytesL (recsL b l.L)).length then 7 else 0
theorem rise_drop {f : Int} {l : List AEntry} {k : Nat} {e : AEntry} (h : l[k]? = some e) (h2 : ¬ e.Term < (if 1 > f then 1 else f)) (h3 : ¬ 1073741824 < e.Term) : riseL f (l.drop k) = riseL e.Term (l.drop (k + 1)) := by
  obtain ⟨hk, he⟩ := List.getElem?_eq_some_iff.1 h
  rw [List.drop_eq_getElem_cons hk, he]
  show (!(decide _ || decide _) && _) = _
  rw [decide_eq_false h2, decide_eq_false h3]; rfl
theorem rise_bad {f : Int} {l : List AEntry} {k : Nat} {e : AEntry} (h : l[k]? = some e) (h2 : e.Term < (if 1 > f then 1 else f) ∨ 1073741824 < e.Term) : riseL f (l.drop k) = false := by
  obtain ⟨hk, he⟩ := List.getElem?_eq_some_iff.1 h
  rw [List.drop_eq_getElem_cons hk, he]
  show (!(decide _ || decide _) && _) = _
  rcases h2 with h2 | h2
  · rw [decide_eq_true h2]; rfl
  · rw [decide_eq_true h2, Bool.or_true]; rfl
theorem eRecs_get : ∀ (l : List AEntry) (i k : Nat) (e : AEntry), l[k]? = some e → (eRecs i l)[k]? = some (eRec (i + k) e)
  | [], _, _, _, h => by simp at h
  | x :: l, i, 0, e, h => by simp at h; subst h; rfl
  | x :: l, i, k + 1, e, h => by
    have := eRecs_get l (i + 1) k e (by simpa using h)
    rw [show i + 1 + k = i + (k + 1) from by omega] at this
    simpa [eRecs] using this
theorem eRecs_len : ∀ (l : List AEntry) (i : Nat), (eRecs i l).length = l.length
  | [], _ => rfl
  | _ :: l, i => by rw [eRecs, List.length_cons, eRecs_len l, List.length_cons]
theorem bytes_snoc {l : List AEntry} {k : Nat} {e : AEntry} (h : l[k]? = some e) : bytesL ((eRecs 0 l).take (k + 1)) = bytesL ((eRecs 0 l).take k) ++ recB (2, nats (numsZ (((0 + k + 1 : Nat) : Nat) : Int) e)) := by
  have h1 := eRecs_get l 0 k e h
  rw [take_snoc h1, bytesL_append]
  congr 1
  show recB (eRec (0 + k) e) ++ [] = _
  rw [List.append_nil]; unfold eRec; rw [Nat.zero_add]; rfl
theorem nums_ok {i : Int} {e : AEntry} (hi : 0 ≤ i ∧ i ≤ 1000) (h : ∀ z ∈ numsZ 0 e, ¬ sizeZ z < 0) : ∀ z ∈ numsZ i e, ¬ sizeZ z < 0 := by
  intro z hz
  rcases List.mem_cons.1 hz with rfl | hz
  · unfold sizeZ; rw [if_neg (by omega)]; omega
  · exact h z (List.mem_cons_of_mem _ hz)
theorem nums_in {i : Int} {e : AEntry} (hi : 0 ≤ i ∧ i ≤ 1000) (h : ∀ z ∈ numsZ 0 e, InI64 z) : ∀ z ∈ numsZ i e, InI64 z := by
  intro z hz
  rcases List.mem_cons.1 hz with rfl | hz
  · unfold InI64; omega
  · exact h z (List.mem_cons_of_mem _ hz)
theorem bytes_len : ∀ (rs : List Rec), (∀ r ∈ rs, okR r) → (bytesL rs).length ≤ 75 * rs.length
  | [], _ => by simp [bytesL]
  | r :: rs, h => by
    have h1 := h r (by simp)
    have h2 := packL_len h1.2.2
    have h3 := bytes_len rs (fun q hq => h q (by simp [hq]))
    rw [bytesL_cons, List.length_append, recB_len, List.length_cons]
    have := h1.2.1; omega
theorem may_len {l : ALog} (h : lMayL l = true) : l.L.length ≤ 64 := by
  unfold lMayL at h
  simp only [Bool.and_eq_true, Bool.not_eq_true', decide_eq_false_iff_not] at h
  omega
theorem may_base {l : ALog} (h : lMayL l = true) (h0 : l.Base = 0) : l = ⟨0, 0, l.L⟩ := by
  obtain ⟨a, b, c⟩ := l
  unfold lMayL at h
  simp only [Bool.and_eq_true, Bool.not_eq_true', decide_eq_false_iff_not] at h h0 ⊢
  subst h0
  congr 1; omega
theorem save_no {b : ABallot} {l : ALog} (h : (((!bMayL b || !lMayL l) || (!decide (l.Base = 0))) || l.L.any fun e => (numsZ 0 e).any fun z => decide (sizeZ z < 0)) = false) :
    bMayL b = true ∧ lMayL l = true ∧ l.Base = 0 ∧ ∀ e ∈ l.L, ∀ z ∈ numsZ 0 e, ¬ sizeZ z < 0 := by
  simp only [Bool.or_eq_false_iff, Bool.not_eq_false', decide_eq_true_eq, List.any_eq_false] at h
  exact ⟨h.1.1.1, h.1.1.2, h.1.2, fun e he z hz hlt => h.2 e he (List.any_eq_true.2 ⟨z, hz, decide_eq_true hlt⟩)⟩
abbrev bRecs (b : ABallot) : List Rec := if b = ⟨0, 0⟩ then [] else [bRec b]
theorem recs_len {b : ABallot} {l : List AEntry} {k : Nat} (hb : bMayL b = true) (hl : l.length ≤ 64) (ho : ∀ e ∈ l, ∀ z ∈ numsZ 0 e, ¬ sizeZ z < 0) : (bytesL (bRecs b) ++ bytesL ((eRecs 0 l).take k)).length ≤ 5000 := by
  have h1 := recs_ok hb (by omega : l.length ≤ 70) ho
  rw [← bytesL_append]
  have h2 := bytes_len (bRecs b ++ (eRecs 0 l).take k) (fun r hr => by
    refine h1 r ?_
    unfold recsL
    rcases List.mem_append.1 hr with h | h
    · exact List.mem_append_left _ h
    · exact List.mem_append_right _ (List.mem_of_mem_take h))
  have h3 : (bRecs b ++ (eRecs 0 l).take k).length ≤ 65 := by
    rw [List.length_append, List.length_take, eRecs_len]
    unfold bRecs
    split <;> simp <;> omega
  omega
theorem ballot_nums {b : ABallot} (hb : bMayL b = true) : (∀ z ∈ [b.Term, b.Vote], ¬ sizeZ z < 0) ∧ ∀ z ∈ [b.Term, b.Vote], InI64 z := by
  unfold bMayL at hb
  simp only [Bool.and_eq_true, Bool.or_eq_true, decide_eq_true_eq] at hb
  constructor <;> intro z hz <;> rcases List.mem_cons.1 hz with rfl | hz
  · unfold sizeZ; rw [if_neg (by omega)]; omega
  · rw [List.mem_singleton] at hz; subst hz; unfold sizeZ; rw [if_neg (by omega)]; omega
  · unfold InI64; omega
  · rw [List.mem_singleton] at hz; subst hz; unfold InI64; omega

theorem cl_182 : Callable Tryz.prog 182 := fun _ _ => by kernel_rfl
theorem fa_23_0 : FieldAt Tryz.prog 23 0 0 := fun _ _ => by kernel_rfl
theorem fa_23_1 : FieldAt Tryz.prog 23 1 1 := fun _ _ => by kernel_rfl
theorem cl_57 : Callable Tryz.prog 57 := fun _ _ => by kernel_rfl
theorem zero_68 : ∀ w, (zeroValue 68).run Tryz.prog w = .ok (.agg #[.int .i64 0, .int .i64 0, .int .i64 0, .int .i64 0, .int .i64 0, .int .i64 0, .int .i64 0]) w := fun _ => by kernel_rfl
theorem fa_26_0 : FieldAt Tryz.prog 26 0 0 := fun _ _ => by kernel_rfl
theorem fa_26_1 : FieldAt Tryz.prog 26 1 1 := fun _ _ => by kernel_rfl
theorem fa_26_2 : FieldAt Tryz.prog 26 2 2 := fun _ _ => by kernel_rfl
theorem na_24 : NotAgg Tryz.prog 24 := fun _ => by kernel_rfl
theorem cl_58 : Callable Tryz.prog 58 := fun _ _ => by kernel_rfl
theorem sz_23 : Size Tryz.prog 23 2 := fun _ => by kernel_rfl
theorem ag_23 : Agg Tryz.prog 23 2 := ⟨fun _ => by kernel_rfl, sz_23⟩
theorem cl_18 : Callable Tryz.prog 18 := fun _ _ => by kernel_rfl
theorem sz_26 : Size Tryz.prog 26 3 := fun _ => by kernel_rfl
theorem ag_26 : Agg Tryz.prog 26 3 := ⟨fun _ => by kernel_rfl, sz_26⟩
theorem cl_19 : Callable Tryz.prog 19 := fun _ _ => by kernel_rfl
theorem cl_21 : Callable Tryz.prog 21 := fun _ _ => by kernel_rfl
theorem cl_20 : Callable Tryz.prog 20 := fun _ _ => by kernel_rfl
theorem fa_61_0 : FieldAt Tryz.prog 61 0 0 := fun _ _ => by kernel_rfl
theorem fa_61_2 : FieldAt Tryz.prog 61 2 2 := fun _ _ => by kernel_rfl
theorem fa_59_0 : FieldAt Tryz.prog 59 0 0 := fun _ _ => by kernel_rfl
theorem eqg_23 : Tryz.prog.eqGuardType Tryz.prog.depth 23 = false := by kernel_rfl
theorem eqv_23 (x y : ABallot) (w : World) : (Op.equalIn 10000 23 (.agg x.enc.toArray) (.agg y.enc.toArray)).run Tryz.prog w = .ok (decide (x = y)) w := by
  obtain ⟨a0, a1⟩ := x; obtain ⟨b0, b1⟩ := y
  simp only [ABallot.enc, ABallot.mk.injEq]
  simp [go_sem]
  repeat' split
  all_goals simp_all
theorem bs_72_2_II (a0 : Int) (a1 : Int) : ∀ w, (Instr.buildSlice 72 2 (List.toArray [(0, .int .i64 a0), (1, .int .i64 a1)])).run Tryz.prog w = .ok (.slice (some ⟨w.heap.size, 0, none⟩) 2 2) (w.alloc (.cells (List.toArray [.int .i64 a0, .int .i64 a1]) 3)) := fun _ => by kernel_rfl
theorem cl_23 : Callable Tryz.prog 23 := fun _ _ => by kernel_rfl
theorem fa_59_1 : FieldAt Tryz.prog 59 1 2 := fun _ _ => by kernel_rfl
theorem cl_25 : Callable Tryz.prog 25 := fun _ _ => by kernel_rfl
theorem bl_59_0A_1S (a0_0 : Int) (a0_1 : Int) (a1 : Option Addr) (a1n a1c : Nat) : Tryz.prog.built 59 [(0, .agg #[.int .i64 a0_0, .int .i64 a0_1]), (1, .slice a1 a1n a1c)] = some #[.int .i64 a0_0, .int .i64 a0_1, .slice a1 a1n a1c] := by kernel_rfl
theorem sz_59 : Size Tryz.prog 59 3 := fun _ => by kernel_rfl
theorem bl_61_  : Tryz.prog.built 61 [] = some #[.slice none 0 0, .int .i64 0, .int .i64 0, .int .i64 0, .slice none 0 0] := by kernel_rfl
theorem Unpack_ok {S0 : Nat → Prop} (w : World) {A_b : Option Addr} {c_b : Nat} {b : List (BitVec 8)} (h_b : Sl tByte S0 w A_b c_b b) {ns : List Nat} (hb : b = packL ns) (hn56 : ∀ n ∈ ns, n < 2 ^ 56) (hl : ns.length ≤ 255) :
    Rets Tryz.prog 124 #[.slice A_b b.length c_b] w fun v w' => ∃ (B0_0 : Option Addr) (d0_0 : Nat) (B0_1 : Option Addr) (d0_1 : Nat), v = .tuple #[.agg #[.slice B0_0 (((⟨casts ns, []⟩ : AFields).N).length) d0_0, .slice B0_1 (((⟨casts ns, []⟩ : AFields).Data).length) d0_1], .int .i64 0] ∧ Hp w S0 w' [rOwn tInt 3 B0_0 d0_0 ((⟨casts ns, []⟩ : AFields).N), rOwn tByte 5 B0_1 d0_1 ((⟨casts ns, []⟩ : AFields).Data)] := by
 refine WP.enter Tryz.func124 rfl Tryz.ntmps124 rfl ?_
 have H0 := Hp.init w S0
 have hb_b := h_b.len_le
 refine rg ?_
 refine al zero_128 rfl H0 fun g1 w1 K1 => ?_
 refine as_ rfl <| dn <| rg <| mv rfl <| WL.call rfl rfl rfl cl_182 (Cut_ok _ (K1.a h_b).any hb hn56 hl) rfl ?_
 rintro _ w2 ⟨B0_0_2, d0_0_2, B0_1_2, d0_1_2, rfl, h2⟩
 have K2 := K1.f2 h2
 have hL2_0 := (K2.o s0).len_le
 have hL2_1 := (K2.o s1).len_le
 refine mv rfl <| xt rfl rfl <| xt rfl rfl <| xt rfl rfl ?_
 refine al zero_128 rfl K2 fun g2 w3 K3 => ?_
 refine stw rfl rfl rfl sz_128 K3 s0 rfl rfl fun w4 K4 => ?_
 refine as_ rfl <| as_ rfl <| dn <| WP.seq <| rg <| mv rfl <| ev (Ev.eql rfl rfl) <| mv rfl <| WL.evg rfl (Ev.move rfl) rfl <| WL.evg rfl (Ev.move rfl) rfl <| WL.evg rfl (Ev.len Tryz.underlying32 rfl) rfl ?_
 refine WL.evg rfl (Ev.neq rfl rfl) rfl <| ev (Ev.pick_t rfl rfl) <| dn ?_
 refine WP.cond_end rfl (fun hc20 => ?_) (fun hc20 => ?_)
 ·
  replace hc20 := not_dec_t hc20
  simp at hc20
 replace hc20 := not_dec_f hc20
 refine WP.skip (Pst.norm ?_)
 refine rg <| ev (Ev.loadBox ag_128 rfl rfl (K4.x s0)) <| mv rfl ?_
 refine stw rfl rfl rfl sz_128 K4 s3 rfl rfl fun w5 K5 => ?_
 refine as_ rfl <| dn ?_
 refine WP.ret (Pst.retC rfl ⟨_, _, rfl, ⟨_, rfl, loads_box (cs := [.slice B0_0_2 (((⟨casts ns, []⟩ : AFields).N).length) d0_0_2, .slice B0_1_2 (((⟨casts ns, []⟩ : AFields).Data).length) d0_1_2]) ag_128 rfl (K5.x s0)⟩, ⟨_, _, rfl, rfl, rfl⟩⟩ ?_)
 exact ⟨B0_0_2, d0_0_2, B0_1_2, d0_1_2, rfl, ((K5.rm s1).rm s0)⟩

theorem member_ok {S0 : Nat → Prop} (w : World) (id : Int) :
    Rets Tryz.prog 57 #[.int .i64 id] w fun v w' => v = .bool (decide (1 ≤ id) && decide (id ≤ 16)) ∧ Hp w S0 w' [] := by
 refine WP.enter Tryz.func57 rfl Tryz.ntmps57 rfl ?_
 have H0 := Hp.init w S0
 refine rg <| as_ rfl <| dn <| rg <| mv rfl <| ev (Ev.geq rfl rfl) <| mv rfl ?_
 refine WL.cutb 3 8 ((decide (1 ≤ id)) && (decide (id ≤ 16))) ?_ ?_
 ·
  cases hb5 : decide (1 ≤ id) with
  | true =>
   have hb5p := of_decide_eq_true hb5
   refine WL.evg rfl (Ev.move rfl) rfl <| WL.evg rfl (Ev.leq rfl rfl) rfl <| ev (Ev.pick_t rfl rfl) ?_
   exact WL.cend rfl
  | false =>
   refine WL.pass rfl rfl rfl <| WL.pass rfl rfl rfl <| ev (Ev.pick_f rfl rfl) ?_
   exact WL.cend rfl
 refine as_ rfl <| dn ?_
 refine WP.ret (Pst.body_ret rfl rfl rfl ?_)
 have hq1 : (((decide (1 ≤ id)) && (decide (id ≤ 16))) : Bool) = (decide (1 ≤ id) && decide (id ≤ 16)) := by rfl
 exact ⟨by rw [hq1] <;> rfl, H0⟩

theorem bMay_ok {S0 : Nat → Prop} (w : World) (b : ABallot) :
    Rets Tryz.prog 18 #[.agg #[.int .i64 b.Term, .int .i64 b.Vote]] w fun v w' => v = .bool (bMayL b) ∧ Hp w S0 w' [] := by
 refine WP.enter Tryz.func18 rfl Tryz.ntmps18 rfl ?_
 have H0 := Hp.init w S0
 refine rg ?_
 refine bx rfl rfl H0 fun g1 w1 K1 => ?_
 refine as_ rfl <| dn <| rg <| ev (Ev.field (q := ⟨g1, 0, none⟩) fa_23_0 rfl rfl) <| ev (Ev.loadBoxCell na_3 rfl (K1.x s0) rfl) <| ev (Ev.geq rfl rfl) <| mv rfl ?_
 refine WL.cutb 4 10 ((decide (0 ≤ b.Term)) && (decide (b.Term ≤ 1073741824))) ?_ ?_
 ·
  cases hb6 : decide (0 ≤ b.Term) with
  | true =>
   have hb6p := of_decide_eq_true hb6
   refine WL.evg rfl (Ev.field (q := ⟨g1, 0, none⟩) fa_23_0 rfl rfl) rfl <| WL.evg rfl (Ev.loadBoxCell na_3 rfl (K1.x s0) rfl) rfl <| WL.evg rfl (Ev.leq rfl rfl) rfl ?_
   refine ev (Ev.pick_t rfl rfl) ?_
   exact WL.cend rfl
  | false =>
   refine WL.pass rfl rfl rfl <| WL.pass rfl rfl rfl <| WL.pass rfl rfl rfl <| ev (Ev.pick_f rfl rfl) ?_
   exact WL.cend rfl
 refine mv rfl ?_
 refine WL.cutbW 9 20 (((decide (0 ≤ b.Term)) && (decide (b.Term ≤ 1073741824))) && ((decide (b.Vote = 0)) || (decide (1 ≤ b.Vote) && decide (b.Vote ≤ 16)))) ?_ ?_
 ·
  cases hb11 : ((decide (0 ≤ b.Term)) && (decide (b.Term ≤ 1073741824))) with
  | true =>
   have hb11p := hb11
   try simp only [Bool.and_eq_true, Bool.and_eq_false_imp, decide_eq_true_eq, decide_eq_false_iff_not] at hb11p
   refine WL.evg rfl (Ev.field (q := ⟨g1, 1, none⟩) fa_23_1 rfl rfl) rfl <| WL.evg rfl (Ev.loadBoxCell na_3 rfl (K1.x s0) rfl) rfl <| WL.evg rfl (Ev.eql rfl rfl) rfl ?_
   refine WL.evg rfl (Ev.move rfl) rfl ?_
   refine WL.cutbW 4 19 ((decide (b.Vote = 0)) || (decide (1 ≤ b.Vote) && decide (b.Vote ≤ 16))) ?_ ?_
   ·
    cases hb15 : decide (b.Vote = 0) with
    | true =>
     refine WL.pass rfl rfl rfl <| WL.pass rfl rfl rfl <| WL.pass rfl rfl rfl <| WL.evg rfl (Ev.pick_t rfl rfl) rfl ?_
     exact WL.cendW rfl (Ext.refl _)
    | false =>
     have hb15p := of_decide_eq_false hb15
     refine WL.evg rfl (Ev.field (q := ⟨g1, 1, none⟩) fa_23_1 rfl rfl) rfl <| WL.evg rfl (Ev.loadBoxCell na_3 rfl (K1.x s0) rfl) rfl <| WL.callg rfl rfl rfl rfl cl_57 (member_ok (S0 := Any) _ b.Vote) rfl ?_
     rintro _ w2 ⟨rfl, h2⟩
     have K2 := K1.c0 h2
     refine WL.evg rfl (Ev.pick_f rfl rfl) rfl ?_
     exact WL.cendW rfl h2.ext
   intro w3 e3
   have K3 := K1.grow e3
   refine ev (Ev.pick_t rfl rfl) ?_
   exact WL.cendW rfl e3
  | false =>
   refine WL.pass rfl rfl rfl <| WL.pass rfl rfl rfl <| WL.pass rfl rfl rfl <| WL.pass rfl rfl rfl <| WL.pass rfl rfl rfl <| WL.pass rfl rfl rfl <| WL.pass rfl rfl rfl ?_
   refine WL.pass rfl rfl rfl <| ev (Ev.pick_f rfl rfl) ?_
   exact WL.cendW rfl (Ext.refl _)
 intro w4 e4
 have K4 := K1.grow e4
 refine as_ rfl <| dn ?_
 refine WP.ret (Pst.body_ret rfl rfl rfl ?_)
 have hq1 : ((((decide (0 ≤ b.Term)) && (decide (b.Term ≤ 1073741824))) && ((decide (b.Vote = 0)) || (decide (1 ≤ b.Vote) && decide (b.Vote ≤ 16)))) : Bool) = (bMayL b) := by unfold bMayL; rfl
 exact ⟨by rw [hq1] <;> rfl, (K4.rm s0)⟩

theorem rising_ok {S0 : Nat → Prop} (w : World) {A_l : Option Addr} {c_l : Nat} {l : List AEntry} (h_l : Sl tEntry S0 w A_l c_l l) (f : Int) :
    Rets Tryz.prog 58 #[.slice A_l l.length c_l, .int .i64 f] w fun v w' => v = .bool (riseL f l) ∧ Hp w S0 w' [] := by
 refine WP.enter Tryz.func58 rfl Tryz.ntmps58 rfl ?_
 have H0 := Hp.init w S0
 have hb_l := h_l.len_le
 refine rg <| as_ rfl <| dn <| WP.seq <| rg <| mv rfl <| ev (Ev.len Tryz.underlying24 rfl) <| mv rfl <| dn <| WP.block <| Lp H0 (fun l0 rk mJ lJ wJ => ∃ (k : Nat) (f1 : Int), lJ = (1, .int .i64 f1) :: (9, .int .i64 ((k : Nat) : Int)) :: l0 ∧ mJ = l.length - k ∧ k ≤ l.length ∧ (riseL f l = riseL f1 (l.drop k)) ∧ Hp w S0 wJ rk) ⟨0, f, rfl, rfl, Nat.zero_le _, by rfl, H0⟩ rfl ?_
 rintro _ _ w1 ⟨k, f1, rfl, rfl, hk, hri, K1⟩
 refine rg <| ev (Ev.lss rfl rfl) <| dn ?_
 refine WP.cond rfl (fun hc10 => ?_) (fun hc10 => ?_)
 ·
  replace hc10 := of_decide_eq_true hc10
  refine WP.skip (Pst.norm ?_)
  refine WP.seq <| WP.block <| rg ?_
  obtain ⟨x1, hx1⟩ := get_some (xs := l) (i := k) (by omega)
  refine ev (Ev.index (i := k) Tryz.underlying24 sz_68 rfl rfl rfl (lt_of_get hx1) ((K1.a h_l).some_ hx1)) <| ev (Ev.loadRow ag_68 rfl rfl ((K1.a h_l).flat_row hx1)) ?_
  refine al zero_68 rfl K1 fun g1 w2 K2 => ?_
  refine stw rfl rfl rfl sz_68 K2 s0 rfl rfl fun w3 K3 => ?_
  refine dn <| WP.seq <| rg <| ev (Ev.field (q := ⟨g1, 0, none⟩) fa_68_0 rfl rfl) <| ev (Ev.loadBoxCell na_3 rfl (K3.x s0) rfl) <| mv rfl <| ev (Ev.max2 rfl rfl) ?_
  refine ev (Ev.lss rfl rfl) <| mv rfl ?_
  refine WL.cutb 4 22 ((decide (x1.Term < (if 1 > f1 then 1 else f1))) || (decide (1073741824 < x1.Term))) ?_ ?_
  ·
   cases hb18 : decide (x1.Term < (if 1 > f1 then 1 else f1)) with
   | true =>
    refine WL.pass rfl rfl rfl <| WL.pass rfl rfl rfl <| WL.pass rfl rfl rfl <| ev (Ev.pick_t rfl rfl) ?_
    exact WL.cend rfl
   | false =>
    have hb18p := of_decide_eq_false hb18
    refine WL.evg rfl (Ev.field (q := ⟨g1, 0, none⟩) fa_68_0 rfl rfl) rfl <| WL.evg rfl (Ev.loadBoxCell na_3 rfl (K3.x s0) rfl) rfl <| WL.evg rfl (Ev.gtr rfl rfl) rfl ?_
    refine ev (Ev.pick_f rfl rfl) ?_
    exact WL.cend rfl
  refine dn ?_
  refine WP.cond_end rfl (fun hc22 => ?_) (fun hc22 => ?_)
  ·
   try simp only [Bool.or_eq_true, Bool.or_eq_false_iff, decide_eq_true_eq, decide_eq_false_iff_not] at hc22
   refine rg <| as_ rfl <| dn ?_
   refine WP.ret (Pst.then_ret (Pst.blk_ret (Pst.then_ret (Pst.then_ret (Pst.blk_ret (Pst.then_ret (Pst.body_ret rfl rfl rfl ?_)))))))
   have hq1 : (false : Bool) = (riseL f l) := by rw [hri]; symm; exact rise_bad hx1 (by omega)
   exact ⟨by rw [← hq1] <;> rfl, (K3.rm s0)⟩
  try simp only [Bool.or_eq_true, Bool.or_eq_false_iff, decide_eq_true_eq, decide_eq_false_iff_not] at hc22
  refine WP.skip (Pst.norm ?_)
  refine rge <| ev (Ev.field (q := ⟨g1, 0, none⟩) fa_68_0 rfl rfl) <| ev (Ev.loadBoxCell na_3 rfl (K3.x s0) rfl) <| as_ rfl <| dne ?_
  refine Pst.blk_norm (Pst.norm ?_)
  refine rge <| ev (Ev.add rfl rfl (I64.mk (by omega) (by omega))) <| mv rfl <| dne ?_
  exact Pst.ag ⟨(k + 1), x1.Term, rfl, rfl, by omega, by rw [hri]; exact rise_drop hx1 (by omega) (by omega), (K3.rm s0)⟩ rfl (by omega)
 replace hc10 := of_decide_eq_false hc10
 refine WP.exit (Pst.then_exit (Pst.then_exit (Pst.blk_eq (Pst.norm ?_))))
 refine rg <| as_ rfl <| dn ?_
 refine WP.ret (Pst.body_ret rfl rfl rfl ?_)
 have hq2 : (true : Bool) = (riseL f l) := by rw [hri, List.drop_of_length_le (by omega)]; rfl
 exact ⟨by rw [← hq2] <;> rfl, K1⟩

theorem lMay_ok {S0 : Nat → Prop} (w : World) (l : ALog) {B0_l : Option Addr} {d0_l : Nat} (h0_l : Sl tEntry S0 w B0_l d0_l l.L) :
    Rets Tryz.prog 19 #[.agg #[.int .i64 l.Base, .int .i64 l.BaseTerm, .slice B0_l l.L.length d0_l]] w fun v w' => v = .bool (lMayL l) ∧ Hp w S0 w' [] := by
 refine WP.enter Tryz.func19 rfl Tryz.ntmps19 rfl ?_
 have H0 := Hp.init w S0
 refine rg ?_
 refine bx rfl rfl H0 fun g1 w1 K1 => ?_
 refine as_ rfl <| dn <| WP.seq <| WP.block <| rg <| ev (Ev.field (q := ⟨g1, 0, none⟩) fa_26_0 rfl rfl) <| ev (Ev.loadBoxCell na_3 rfl (K1.x s0) rfl) <| ev (Ev.lss rfl rfl) ?_
 refine mv rfl ?_
 refine WL.cutb 4 11 ((decide (l.Base < 0)) || (decide (1099511627776 < l.Base))) ?_ ?_
 ·
  cases hb7 : decide (l.Base < 0) with
  | true =>
   refine WL.pass rfl rfl rfl <| WL.pass rfl rfl rfl <| WL.pass rfl rfl rfl <| ev (Ev.pick_t rfl rfl) ?_
   exact WL.cend rfl
  | false =>
   have hb7p := of_decide_eq_false hb7
   refine WL.evg rfl (Ev.field (q := ⟨g1, 0, none⟩) fa_26_0 rfl rfl) rfl <| WL.evg rfl (Ev.loadBoxCell na_3 rfl (K1.x s0) rfl) rfl <| WL.evg rfl (Ev.gtr rfl rfl) rfl ?_
   refine ev (Ev.pick_f rfl rfl) ?_
   exact WL.cend rfl
 refine mv rfl ?_
 refine WL.cutb 4 16 (((decide (l.Base < 0)) || (decide (1099511627776 < l.Base))) || (decide (l.BaseTerm < 0))) ?_ ?_
 ·
  cases hb12 : ((decide (l.Base < 0)) || (decide (1099511627776 < l.Base))) with
  | true =>
   refine WL.pass rfl rfl rfl <| WL.pass rfl rfl rfl <| WL.pass rfl rfl rfl <| ev (Ev.pick_t rfl rfl) ?_
   exact WL.cend rfl
  | false =>
   have hb12p := hb12
   try simp only [Bool.or_eq_true, Bool.or_eq_false_iff, decide_eq_true_eq, decide_eq_false_iff_not] at hb12p
   refine WL.evg rfl (Ev.field (q := ⟨g1, 1, none⟩) fa_26_1 rfl rfl) rfl <| WL.evg rfl (Ev.loadBoxCell na_3 rfl (K1.x s0) rfl) rfl <| WL.evg rfl (Ev.lss rfl rfl) rfl ?_
   refine ev (Ev.pick_f rfl rfl) ?_
   exact WL.cend rfl
 refine mv rfl ?_
 refine WL.cutb 4 21 ((((decide (l.Base < 0)) || (decide (1099511627776 < l.Base))) || (decide (l.BaseTerm < 0))) || (decide (1073741824 < l.BaseTerm))) ?_ ?_
 ·
  cases hb17 : (((decide (l.Base < 0)) || (decide (1099511627776 < l.Base))) || (decide (l.BaseTerm < 0))) with
  | true =>
   refine WL.pass rfl rfl rfl <| WL.pass rfl rfl rfl <| WL.pass rfl rfl rfl <| ev (Ev.pick_t rfl rfl) ?_
   exact WL.cend rfl
  | false =>
   have hb17p := hb17
   try simp only [Bool.or_eq_true, Bool.or_eq_false_iff, decide_eq_true_eq, decide_eq_false_iff_not] at hb17p
   refine WL.evg rfl (Ev.field (q := ⟨g1, 1, none⟩) fa_26_1 rfl rfl) rfl <| WL.evg rfl (Ev.loadBoxCell na_3 rfl (K1.x s0) rfl) rfl <| WL.evg rfl (Ev.gtr rfl rfl) rfl ?_
   refine ev (Ev.pick_f rfl rfl) ?_
   exact WL.cend rfl
 refine as_ rfl <| dn ?_
 refine WP.cond_end rfl (fun hc3 => ?_) (fun hc3 => ?_)
 ·
  try simp only [Bool.or_eq_true, Bool.or_eq_false_iff, decide_eq_true_eq, decide_eq_false_iff_not] at hc3
  refine rg <| as_ rfl <| dn ?_
  refine WP.ret (Pst.blk_ret (Pst.then_ret (Pst.body_ret rfl rfl rfl ?_)))
  have hq1 : (false : Bool) = (lMayL l) := by unfold lMayL; first | (rw [decide_eq_true (by omega)]; rfl) | (rw [decide_eq_false (by omega), decide_eq_true (by omega)]; rfl) | (rw [decide_eq_false (by omega), decide_eq_false (by omega)]; rfl) | (exfalso; omega)
  exact ⟨by rw [← hq1] <;> rfl, (K1.rm s0)⟩
 try simp only [Bool.or_eq_true, Bool.or_eq_false_iff, decide_eq_true_eq, decide_eq_false_iff_not] at hc3
 refine WP.seq <| rg <| ev (Ev.field (q := ⟨g1, 0, none⟩) fa_26_0 rfl rfl) <| ev (Ev.loadBoxCell na_3 rfl (K1.x s0) rfl) <| ev (Ev.eql rfl rfl) <| mv rfl ?_
 refine WL.cutb 4 30 ((decide (l.Base = 0)) && (!decide (l.BaseTerm = 0))) ?_ ?_
 ·
  cases hb26 : decide (l.Base = 0) with
  | true =>
   have hb26p := of_decide_eq_true hb26
   refine WL.evg rfl (Ev.field (q := ⟨g1, 1, none⟩) fa_26_1 rfl rfl) rfl <| WL.evg rfl (Ev.loadBoxCell na_3 rfl (K1.x s0) rfl) rfl <| WL.evg rfl (Ev.neq rfl rfl) rfl ?_
   refine ev (Ev.pick_t rfl rfl) ?_
   exact WL.cend rfl
  | false =>
   refine WL.pass rfl rfl rfl <| WL.pass rfl rfl rfl <| WL.pass rfl rfl rfl <| ev (Ev.pick_f rfl rfl) ?_
   exact WL.cend rfl
 refine as_ rfl <| dn ?_
 refine WP.cond_end rfl (fun hc22 => ?_) (fun hc22 => ?_)
 ·
  try simp only [Bool.or_eq_true, Bool.or_eq_false_iff, Bool.and_eq_true, Bool.and_eq_false_imp, Bool.not_eq_true', Bool.not_eq_false', decide_eq_true_eq, decide_eq_false_iff_not] at hc22
  refine WP.skip (Pst.norm ?_)
  refine WP.cond_end rfl (fun hc22 => ?_) (fun hc22 => ?_)
  ·
   try simp only [Bool.or_eq_true, Bool.or_eq_false_iff, Bool.and_eq_true, Bool.and_eq_false_imp, Bool.not_eq_true', Bool.not_eq_false', decide_eq_true_eq, decide_eq_false_iff_not] at hc22
   refine rg <| as_ rfl <| dn ?_
   refine WP.ret (Pst.blk_ret (Pst.then_ret (Pst.body_ret rfl rfl rfl ?_)))
   have hq2 : (false : Bool) = (lMayL l) := by unfold lMayL; first | (rw [decide_eq_true (by omega)]; rfl) | (rw [decide_eq_false (by omega), decide_eq_true (by omega)]; rfl) | (rw [decide_eq_false (by omega), decide_eq_false (by omega)]; rfl) | (exfalso; omega)
   exact ⟨by rw [← hq2] <;> rfl, (K1.rm s0)⟩
  try simp only [Bool.or_eq_true, Bool.or_eq_false_iff, Bool.and_eq_true, Bool.and_eq_false_imp, Bool.not_eq_true', Bool.not_eq_false', decide_eq_true_eq, decide_eq_false_iff_not] at hc22
  refine WP.skip (Pst.blk_norm (Pst.norm ?_))
  refine rg <| ev (Ev.field (q := ⟨g1, 2, none⟩) fa_26_2 rfl rfl) <| ev (Ev.loadBoxCell na_24 rfl (K1.x s0) rfl) <| ev (Ev.field (q := ⟨g1, 1, none⟩) fa_26_1 rfl rfl) ?_
  refine ev (Ev.loadBoxCell na_3 rfl (K1.x s0) rfl) ?_
  refine C0 K1 rfl rfl rfl cl_58 (rising_ok _ (K1.a h0_l).any l.BaseTerm) fun w2 K2 => ?_
  refine as_ rfl <| dn ?_
  refine WP.ret (Pst.body_ret rfl rfl rfl ?_)
  have hq3 : (riseL l.BaseTerm l.L : Bool) = (lMayL l) := by unfold lMayL; first | (rw [decide_eq_true (by omega)]; rfl) | (rw [decide_eq_false (by omega), decide_eq_true (by omega)]; rfl) | (rw [decide_eq_false (by omega), decide_eq_false (by omega)]; rfl) | (exfalso; omega)
  exact ⟨by rw [hq3] <;> rfl, (K2.rm s0)⟩
 try simp only [Bool.or_eq_true, Bool.or_eq_false_iff, Bool.and_eq_true, Bool.and_eq_false_imp, Bool.not_eq_true', Bool.not_eq_false', decide_eq_true_eq, decide_eq_false_iff_not] at hc22
 refine rge <| ev (Ev.field (q := ⟨g1, 2, none⟩) fa_26_2 rfl rfl) <| ev (Ev.loadBoxCell na_24 rfl (K1.x s0) rfl) <| ev (Ev.len Tryz.underlying24 rfl) <| ev (Ev.gtr rfl rfl) ?_
 refine as_ rfl <| dne <| Pst.norm ?_
 refine WP.cond_end rfl (fun hc22 => ?_) (fun hc22 => ?_)
 ·
  replace hc22 := of_decide_eq_true hc22
  refine rg <| as_ rfl <| dn ?_
  refine WP.ret (Pst.blk_ret (Pst.then_ret (Pst.body_ret rfl rfl rfl ?_)))
  have hq4 : (false : Bool) = (lMayL l) := by unfold lMayL; first | (rw [decide_eq_true (by omega)]; rfl) | (rw [decide_eq_false (by omega), decide_eq_true (by omega)]; rfl) | (rw [decide_eq_false (by omega), decide_eq_false (by omega)]; rfl) | (exfalso; omega)
  exact ⟨by rw [← hq4] <;> rfl, (K1.rm s0)⟩
 replace hc22 := of_decide_eq_false hc22
 refine WP.skip (Pst.blk_norm (Pst.norm ?_))
 refine rg <| ev (Ev.field (q := ⟨g1, 2, none⟩) fa_26_2 rfl rfl) <| ev (Ev.loadBoxCell na_24 rfl (K1.x s0) rfl) <| ev (Ev.field (q := ⟨g1, 1, none⟩) fa_26_1 rfl rfl) ?_
 refine ev (Ev.loadBoxCell na_3 rfl (K1.x s0) rfl) ?_
 refine C0 K1 rfl rfl rfl cl_58 (rising_ok _ (K1.a h0_l).any l.BaseTerm) fun w3 K3 => ?_
 refine as_ rfl <| dn ?_
 refine WP.ret (Pst.body_ret rfl rfl rfl ?_)
 have hq5 : (riseL l.BaseTerm l.L : Bool) = (lMayL l) := by unfold lMayL; first | (rw [decide_eq_true (by omega)]; rfl) | (rw [decide_eq_false (by omega), decide_eq_true (by omega)]; rfl) | (rw [decide_eq_false (by omega), decide_eq_false (by omega)]; rfl) | (exfalso; omega)
 exact ⟨by rw [hq5] <;> rfl, (K3.rm s0)⟩

theorem Save_ok {b w : World} {S : Nat → Prop} {F : List Res} {B0_l : Option Addr} {d0_l : Nat} {l : ALog} {g_v : Nat} {u1 : Value} (H0 : Hp b S w (rBx g_v 61 [.slice none 0 0, u1, .int .i64 0, .int .i64 0, .slice none 0 0] :: rSl tEntry B0_l d0_l l.L :: F)) (bl : ABallot) (hwf : ∀ e ∈ l.L, ∀ z ∈ numsZ 0 e, InI64 z) :
    Rets Tryz.prog 6 #[.pointer (some ⟨g_v, 0, none⟩), .agg #[.int .i64 bl.Term, .int .i64 bl.Vote], .agg #[.int .i64 l.Base, .int .i64 l.BaseTerm, .slice B0_l l.L.length d0_l]] w fun v w' => ∃ (A1 : Option Addr) (c1 : Nat) (A2 : Option Addr) (c2 : Nat), v = .int .i64 (saveE bl l) ∧ Hp b S w' (rBx g_v 61 [.slice A1 ((if saveE bl l = 0 then bytesL (recsL bl l.L) else []).length) c1, u1, .int .i64 (if saveE bl l = 0 then bl.Term else 0), .int .i64 (if saveE bl l = 0 then bl.Vote else 0), .slice A2 ((if saveE bl l = 0 then l.L else []).length) c2] :: rOwn tByte 5 A1 c1 (if saveE bl l = 0 then bytesL (recsL bl l.L) else []) :: rOwn tEntry 68 A2 c2 (if saveE bl l = 0 then l.L else []) :: F) := by
 refine WP.enter Tryz.func6 rfl Tryz.ntmps6 rfl <| rg ?_
 refine bx rfl rfl H0 fun g1 w1 K1 => ?_
 refine bx rfl rfl K1 fun g2 w2 K2 => ?_
 refine as_ rfl <| dn <| WP.seq <| rg <| ev (Ev.loadBox ag_23 rfl rfl (K2.x s1)) ?_
 refine C0 K2 rfl rfl rfl cl_18 (bMay_ok (S0 := Any) _ bl) fun w3 K3 => ?_
 refine ev (Ev.not rfl) <| mv rfl ?_
 refine WL.cutbW 4 18 ((!(bMayL bl)) || (!(lMayL l))) ?_ ?_
 ·
  cases hb14 : (!(bMayL bl)) with
  | true =>
   refine WL.pass rfl rfl rfl <| WL.pass rfl rfl rfl <| WL.pass rfl rfl rfl <| ev (Ev.pick_t rfl rfl) ?_
   exact WL.cendW rfl (Ext.refl _)
  | false =>
   refine WL.evg rfl (Ev.loadBox ag_26 rfl rfl (K3.x s0)) rfl <| WL.callg rfl rfl rfl rfl cl_19 (lMay_ok _ l (K3.s s3).any) rfl ?_
   rintro _ w4 ⟨rfl, h4⟩
   have K4 := K3.c0 h4
   refine WL.evg rfl (Ev.not rfl) rfl <| ev (Ev.pick_f rfl rfl) ?_
   exact WL.cendW rfl h4.ext
 intro w5 e5
 have K5 := K3.grow e5
 refine mv rfl ?_
 refine WL.cutb 4 23 (((!(bMayL bl)) || (!(lMayL l))) || (!decide (l.Base = 0))) ?_ ?_
 ·
  cases hb19 : ((!(bMayL bl)) || (!(lMayL l))) with
  | true =>
   refine WL.pass rfl rfl rfl <| WL.pass rfl rfl rfl <| WL.pass rfl rfl rfl <| ev (Ev.pick_t rfl rfl) ?_
   exact WL.cend rfl
  | false =>
   have hb19p := hb19
   try simp only [Bool.or_eq_true, Bool.or_eq_false_iff, Bool.and_eq_true, Bool.and_eq_false_imp, Bool.not_eq_true', Bool.not_eq_false', decide_eq_true_eq, decide_eq_false_iff_not] at hb19p
   refine WL.evg rfl (Ev.field (q := ⟨g2, 0, none⟩) fa_26_0 rfl rfl) rfl <| WL.evg rfl (Ev.loadBoxCell na_3 rfl (K5.x s0) rfl) rfl <| WL.evg rfl (Ev.neq rfl rfl) rfl ?_
   refine ev (Ev.pick_f rfl rfl) ?_
   exact WL.cend rfl
 refine mv rfl ?_
 refine WL.cutbW 4 28 ((((!(bMayL bl)) || (!(lMayL l))) || (!decide (l.Base = 0))) || (l.L.any (fun (x : AEntry) => (numsZ 0 x).any fun z => decide (sizeZ z < 0)))) ?_ ?_
 ·
  cases hb24 : (((!(bMayL bl)) || (!(lMayL l))) || (!decide (l.Base = 0))) with
  | true =>
   refine WL.pass rfl rfl rfl <| WL.pass rfl rfl rfl <| WL.pass rfl rfl rfl <| ev (Ev.pick_t rfl rfl) ?_
   exact WL.cendW rfl (Ext.refl _)
  | false =>
   have hb24p := hb24
   try simp only [Bool.or_eq_true, Bool.or_eq_false_iff, Bool.and_eq_true, Bool.and_eq_false_imp, Bool.not_eq_true', Bool.not_eq_false', decide_eq_true_eq, decide_eq_false_iff_not] at hb24p
   refine WL.evg rfl (Ev.field (q := ⟨g2, 2, none⟩) fa_26_2 rfl rfl) rfl <| WL.evg rfl (Ev.loadBoxCell na_24 rfl (K5.x s0) rfl) rfl <| WL.callg rfl rfl rfl rfl cl_20 (ContainsFuncEntry_ok _ (K5.s s3).any (k_f := []) cl_21 (fun (x : AEntry) => (numsZ 0 x).any fun z => decide (sizeZ z < 0)) (fun w' x e hm => (odd_ok (S0 := Any) w' x (hwf _ hm)).mono (by rintro _ _ ⟨rfl, hq2⟩; exact ⟨rfl, hq2.ext⟩))) rfl ?_
   rintro _ w6 ⟨rfl, h6⟩
   have K6 := K5.c0 h6
   refine ev (Ev.pick_f rfl rfl) ?_
   exact WL.cendW rfl h6.ext
 intro w7 e7
 have K7 := K5.grow e7
 refine dn ?_
 refine WP.cond_end rfl (fun hc28 => ?_) (fun hc28 => ?_)
 ·
  refine rg <| as_ rfl <| dn ?_
  refine WP.ret (Pst.then_ret (Pst.body_ret rfl rfl rfl ?_))
  have hs0 : saveE bl l = 1 := by unfold saveE; rw [if_pos hc28]
  have hq1 : (1 : Int) = (saveE bl l) := by exact hs0.symm
  have H1 := K7.nil tByte 5
  have hq2 : (([] : List (BitVec 8)) : List (BitVec 8)) = (if saveE bl l = 0 then bytesL (recsL bl l.L) else []) := by rw [if_neg (by rw [hs0]; decide)]
  have hq3 : (0 : Int) = (if saveE bl l = 0 then bl.Term else 0) := by rw [if_neg (by rw [hs0]; decide)]
  have hq4 : (0 : Int) = (if saveE bl l = 0 then bl.Vote else 0) := by rw [if_neg (by rw [hs0]; decide)]
  have H2 := H1.nil tEntry 68
  have hq5 : (([] : List AEntry) : List AEntry) = (if saveE bl l = 0 then l.L else []) := by rw [if_neg (by rw [hs0]; decide)]
  exact ⟨none, 0, none, 0, by rw [← hq1] <;> rfl, by rw [← hq2, ← hq3, ← hq4, ← hq5]; exact ((((((H2.rm s5).rm s3).rm s2).sel s0).sel s1).sel s2)⟩
 obtain ⟨hsb, hsl, hs0, hso⟩ := save_no hc28
 have hs64 := may_len hsl
 obtain ⟨hbn1, hbn2⟩ := ballot_nums hsb
 refine WP.skip (Pst.norm ?_)
 refine rg <| mv rfl <| ev (Ev.nilCheck rfl) <| ev (Ev.field (q := ⟨g_v, 0, none⟩) fa_61_0 rfl rfl) <| ev (Ev.loadBoxCell na_32 rfl (K7.x s2) rfl) <| WL.call rfl rfl rfl cl_22 (CloneByte_ok _ (A_s := none) (c_s := 0) (s := ([] : List (BitVec 8))) (Sl.none_ tByte Any _) (by first | omega | (simp; done) | decide)) rfl ?_
 rintro _ w8 ⟨A0_8, c0_8, rfl, h8⟩
 have K8 := K7.f1 h8
 have hL8_0 := (K8.o s0).len_le
 refine as_ rfl <| dn <| WP.seq <| WP.draw (by kernel_rfl) (by kernel_rfl) <| WQ.ev (Ev.loadBox ag_23 rfl rfl (K8.x s2)) rfl <| WQ.ev (Ev.move rfl) rfl <| WQ.ev (Ev.nilCheck rfl) rfl ?_
 refine WQ.ev (Ev.field (q := ⟨g_v, 2, none⟩) fa_61_2 rfl rfl) rfl <| WQ.ev (Ev.field (q := ⟨g_v, 2, none⟩) fa_59_0 rfl rfl) rfl <| WQ.ev (Ev.loadBoxPart (cs' := [.int .i64 0, .int .i64 0]) ag_23 rfl rfl (K8.x s3) rfl) rfl ?_
 refine WQ.ev (Ev.neS rfl rfl (eqv_23 bl (⟨0, 0⟩ : ABallot)) eqg_23) rfl ?_
 refine WQ.done fun w9 e9 => ?_
 have K9 := K8.grow e9
 refine WP.cond_end rfl (fun hc40 => ?_) (fun hc40 => ?_)
 ·
  replace hc40 := not_dec_t hc40
  refine rge <| mv rfl <| ev (Ev.field (q := ⟨g1, 0, none⟩) fa_23_0 rfl rfl) <| ev (Ev.loadBoxCell na_3 rfl (K9.x s2) rfl) <| ev (Ev.field (q := ⟨g1, 1, none⟩) fa_23_1 rfl rfl) ?_
  refine ev (Ev.loadBoxCell na_3 rfl (K9.x s2) rfl) ?_
  refine bsn (τ := tInt) (xs := ([bl.Term, bl.Vote] : List Int)) (vs := [(0, .int .i64 bl.Term), (1, .int .i64 bl.Vote)]) (css := [[.int .i64 bl.Term], [.int .i64 bl.Vote]]) rfl (by intro _; apply bs_72_2_II) rfl rfl K9 (fun _ e => ⟨rfl, rfl, trivial⟩) fun g3 w10 K10 => ?_
  have H3 := K10.fz s0
  have H4 := H3.push (H3.s s0)
  refine WL.call rfl rfl rfl cl_23 (record_ok (((H4.sel s1).sel s1).sel s2) 1 (by omega) hbn1 hbn2 (Nat.le_of_ble_eq_true rfl) (by simp)) rfl ?_
  rintro _ w11 ⟨A0_11, c0_11, rfl, K11⟩
  have hL11_0 := (K11.o s0).len_le
  refine as_ rfl <| dne <| Pst.norm <| rg <| as_ rfl <| dn <| WP.seq <| WP.block ?_
  refine Rn 1 (RN.s ?_)
  refine WP.seq <| WP.draw (by kernel_rfl) (by kernel_rfl) <| WQ.ev (Ev.move rfl) rfl <| WQ.ev (Ev.field (q := ⟨g2, 2, none⟩) fa_26_2 rfl rfl) rfl <| WQ.ev (Ev.loadBoxCell na_24 rfl (K11.x s2) rfl) rfl ?_
  refine WQ.ev (Ev.len Tryz.underlying24 rfl) rfl <| WQ.ev (Ev.move rfl) rfl <| WQ.ev (Ev.nilCheck rfl) rfl <| WQ.ev (Ev.field (q := ⟨g_v, 2, none⟩) fa_61_2 rfl rfl) rfl ?_
  refine WQ.ev (Ev.field (q := ⟨g_v, 4, none⟩) fa_59_1 rfl rfl) rfl <| WQ.ev (Ev.loadBoxCell na_24 rfl (K11.x s4) rfl) rfl <| WQ.ev (Ev.len Tryz.underlying24 rfl) rfl ?_
  refine WQ.ev (Ev.min2 rfl rfl) rfl <| WQ.ev (Ev.lss rfl rfl) rfl ?_
  have hq6 : (decide (0 < (if 0 < ((l.L.length : Nat) : Int) then 0 else ((l.L.length : Nat) : Int))) : Bool) = false := by rw [decide_eq_false_iff_not]; split <;> omega
  refine WQ.re (t := 59) rfl (congrArg Value.bool hq6) <| WQ.ev (Ev.move rfl) rfl <| WQ.pass rfl rfl rfl <| WQ.pass rfl rfl rfl <| WQ.pass rfl rfl rfl <| WQ.pass rfl rfl rfl ?_
  refine WQ.pass rfl rfl rfl <| WQ.pass rfl rfl rfl <| WQ.pass rfl rfl rfl <| WQ.pass rfl rfl rfl <| WQ.pass rfl rfl rfl <| WQ.pass rfl rfl rfl <| WQ.pass rfl rfl rfl ?_
  refine WQ.pass rfl rfl rfl <| WQ.pass rfl rfl rfl <| WQ.pass rfl rfl rfl <| WQ.ev (Ev.pick_f rfl rfl) rfl ?_
  refine WQ.done fun w12 e12 => ?_
  have K12 := K11.grow e12
  refine WP.keep' [(0, .pointer (some ⟨g_v, 0, none⟩)), (4, .pointer (some ⟨g1, 0, none⟩)), (5, .pointer (some ⟨g2, 0, none⟩)), (7, .slice A0_11 ((([] : List (BitVec 8)) ++ recB (1, nats ([bl.Term, bl.Vote] : List Int))).length) c0_11), (8, .int .i64 0), (75, .bool false)] rfl ?_
  refine WP.cond_end rfl (fun _h => absurd _h (by decide)) (fun _h => ?_)
  refine WP.exit (Pst.then_exit (Pst.then_exit (Pst.blk_eq (Pst.norm ?_))))
  refine WP.seq <| rg <| mv rfl <| ev (Ev.nilCheck rfl) <| ev (Ev.field (q := ⟨g_v, 2, none⟩) fa_61_2 rfl rfl) <| ev (Ev.field (q := ⟨g_v, 4, none⟩) fa_59_1 rfl rfl) ?_
  refine ev (Ev.loadBoxCell na_24 rfl (K12.x s4) rfl) <| ev (Ev.len Tryz.underlying24 rfl) <| mv rfl <| ev (Ev.gtr rfl rfl) <| dn ?_
  refine WP.cond_end rfl (fun _h => absurd _h (by decide)) (fun _h => ?_)
  refine WP.skip (Pst.norm ?_)
  refine WP.seq <| rg <| ev (Ev.field (q := ⟨g2, 2, none⟩) fa_26_2 rfl rfl) <| ev (Ev.loadBoxCell na_24 rfl (K12.x s2) rfl) <| mv rfl <| ev (Ev.cutFrom (lo := 0) (xs := l.L) Tryz.underlying24 sz_68 rfl rfl rfl (by omega) (K12.s s5).cap) ?_
  refine WL.re (t := 93) rfl (show (.slice (cutA B0_l d0_l 0 7) ((l.L.drop 0).length) (d0_l - 0) : Value) = .slice B0_l l.L.length d0_l by rw [cutA_zero]; rfl) ?_
  refine ev (Ev.len Tryz.underlying24 rfl) <| mv rfl <| dn <| WP.block ?_
  have hq7 : ((([] : List (BitVec 8)) ++ recB (1, nats ([bl.Term, bl.Vote] : List Int))) : List (BitVec 8)) = (bytesL (bRecs bl) ++ bytesL ((eRecs 0 l.L).take 0)) := by unfold bRecs; first | (rw [if_neg hc40]; simp [bytesL, recB, bRec]; done) | (rw [if_pos (by simpa using hc40)]; rfl)
  refine WP.re (t := 7) rfl (congrArg (fun z => Value.slice A0_11 (List.length z) c0_11) hq7) ?_
  rw [hq7] at K12
  refine Lp (K12.rm s0) (fun l0 rk mJ lJ wJ => ∃ (k : Nat) (Ad : Option Addr) (cd : Nat), lJ = (7, .slice Ad ((bytesL (bRecs bl) ++ bytesL ((eRecs 0 l.L).take k)).length) cd) :: (95, .int .i64 ((k : Nat) : Int)) :: l0 ∧ mJ = l.L.length - k ∧ k ≤ l.L.length ∧ Hp b S wJ (rOwn tByte 5 Ad cd (bytesL (bRecs bl) ++ bytesL ((eRecs 0 l.L).take k)) :: rk)) ⟨0, A0_11, c0_11, rfl, rfl, Nat.zero_le _, K12⟩ rfl ?_
  rintro _ _ w13 ⟨k, Ad, cd, rfl, rfl, hk, K13⟩
  refine rg <| ev (Ev.lss rfl rfl) <| dn ?_
  refine WP.cond rfl (fun hc96 => ?_) (fun hc96 => ?_)
  ·
   replace hc96 := of_decide_eq_true hc96
   refine WP.skip (Pst.norm ?_)
   refine WP.seq <| WP.block <| rg <| mv rfl ?_
   obtain ⟨x1, hx1⟩ := get_some (xs := l.L) (i := k) (by omega)
   refine ev (Ev.index (i := k) Tryz.underlying24 sz_68 rfl rfl rfl (lt_of_get hx1) ((K13.s s5).some_ hx1)) <| ev (Ev.loadRow ag_68 rfl rfl ((K13.s s5).flat_row hx1)) ?_
   refine al zero_68 rfl K13 fun g4 w14 K14 => ?_
   refine as_ rfl ?_
   refine stw rfl rfl rfl sz_68 K14 s0 rfl rfl fun w15 K15 => ?_
   refine dn ?_
   have hrl := recs_len (k := k) hsb hs64 hso
   refine rge <| mv rfl <| mv rfl <| mv rfl <| ev (Ev.add rfl rfl (I64.mk (by omega) (by omega))) <| ev (Ev.add rfl rfl (I64.mk (by omega) (by omega))) <| ev (Ev.loadBox ag_68 rfl rfl (K15.x s0)) ?_
   refine WL.call rfl rfl rfl cl_24 (numbers_ok (S0 := Any) _ ((0 + k + 1 : Nat) : Int) x1) rfl ?_
   rintro _ w16 ⟨A0_16, c0_16, rfl, h16⟩
   have K16 := K15.f1 h16
   have hL16_0 := (K16.o s0).len_le
   have H5 := K16.fz s0
   have H6 := H5.push (H5.s s0)
   refine WL.call rfl rfl rfl cl_23 (record_ok ((((H6.sel s2).sel s2).sel s2).sel s3) 2 (by omega) (nums_ok (by omega) (hso _ (mem_of_get hx1))) (nums_in (by omega) (hwf _ (mem_of_get hx1))) (Nat.le_of_ble_eq_true rfl) (by omega)) rfl ?_
   rintro _ w17 ⟨A0_17, c0_17, rfl, K17⟩
   have hL17_0 := (K17.o s0).len_le
   refine as_ rfl <| dne ?_
   refine Pst.blk_norm (Pst.norm ?_)
   refine rge <| ev (Ev.add rfl rfl (I64.mk (by omega) (by omega))) <| mv rfl <| dne ?_
   have hq8 : (((bytesL (bRecs bl) ++ bytesL ((eRecs 0 l.L).take k)) ++ recB (2, nats (numsZ ((0 + k + 1 : Nat) : Int) x1))) : List (BitVec 8)) = (bytesL (bRecs bl) ++ bytesL ((eRecs 0 l.L).take (k + 1))) := by rw [bytes_snoc hx1, List.append_assoc]
   refine Pst.re (t := 7) rfl (congrArg (fun z => Value.slice A0_17 (List.length z) c0_17) hq8) ?_
   rw [hq8] at K17
   exact Pst.ag ⟨(k + 1), A0_17, c0_17, rfl, rfl, by omega, ((K17.rm s2).rm s1)⟩ rfl (by omega)
  replace hc96 := of_decide_eq_false hc96
  refine WP.exit (Pst.then_exit (Pst.then_exit (Pst.blk_eq (Pst.norm ?_))))
  refine WP.seq <| rg <| mv rfl <| ev (Ev.len Tryz.underlying32 rfl) <| ev (Ev.gtr rfl rfl) <| dn ?_
  refine WP.cond_end rfl (fun hc111 => ?_) (fun hc111 => ?_)
  ·
   replace hc111 := of_decide_eq_true hc111
   refine rg <| as_ rfl <| dn ?_
   refine WP.ret (Pst.then_ret (Pst.body_ret rfl rfl rfl ?_))
   have hs0 : saveE bl l = 7 := by unfold saveE; rw [if_neg (by rw [hc28]; decide), if_pos]; have h9 := hc111; rw [List.take_of_length_le (by rw [eRecs_len]; omega), ← bytesL_append] at h9; show 65536 < (bytesL (bRecs bl ++ eRecs 0 l.L)).length; omega
   have hq9 : (7 : Int) = (saveE bl l) := by exact hs0.symm
   have H7 := K13.nil tByte 5
   have hq10 : (([] : List (BitVec 8)) : List (BitVec 8)) = (if saveE bl l = 0 then bytesL (recsL bl l.L) else []) := by rw [if_neg (by rw [hs0]; decide)]
   have hq11 : (0 : Int) = (if saveE bl l = 0 then bl.Term else 0) := by rw [if_neg (by rw [hs0]; decide)]
   have hq12 : (0 : Int) = (if saveE bl l = 0 then bl.Vote else 0) := by rw [if_neg (by rw [hs0]; decide)]
   have H8 := H7.nil tEntry 68
   have hq13 : (([] : List AEntry) : List AEntry) = (if saveE bl l = 0 then l.L else []) := by rw [if_neg (by rw [hs0]; decide)]
   exact ⟨none, 0, none, 0, by rw [← hq9] <;> rfl, by rw [← hq10, ← hq11, ← hq12, ← hq13]; exact ((((((((H8.rm s7).rm s5).rm s4).rm s3).rm s2).sel s0).sel s1).sel s2)⟩
  replace hc111 := of_decide_eq_false hc111
  refine WP.skip (Pst.norm ?_)
  refine He K13 (fun _ K => (K.rm s4)) (fun l0 rk lJ wJ => ∃ (Aj1 : Option Addr) (cj1 : Nat), lJ = l0 ∧ Hp b S wJ (rBx g_v 61 [.slice Ad ((bytesL (bRecs bl) ++ bytesL ((eRecs 0 l.L).take k)).length) cd, u1, .int .i64 bl.Term, .int .i64 bl.Vote, .slice Aj1 l.L.length cj1] :: rOwn tEntry 68 Aj1 cj1 l.L :: rk)) (fun hns H9 => ?_) ?_
  ·
   have k1 := (H9.rm s4)
   refine Tm 0 1 hns rfl rfl k1 <| Tm 1 3 hns rfl rfl k1 <| Tm 2 7 hns rfl rfl k1 <| Tn 3 15 hns rfl (fun _ hK => Ev.loadBox ag_23 rfl rfl (hK.x s3)) k1 <| Tn 4 31 hns rfl (fun _ _ => Ev.field (q := ⟨g2, 2, none⟩) fa_26_2 rfl rfl) k1 ?_
   refine Tn 5 63 hns rfl (fun _ hK => Ev.loadBoxCell na_24 rfl (hK.x s2) rfl) k1 <| O1 6 rfl <| WL.call rfl rfl rfl cl_25 (CloneEntry_ok _ (H9.s s5).any (by omega)) rfl ?_
   rintro _ w18 ⟨A0_18, c0_18, rfl, h18⟩
   have K18 := H9.f1 h18
   have hL18_0 := (K18.o s0).len_le
   have k2 := ((K18.rm s5).rm s0)
   refine WH.next k2 <| Tn 7 255 hns rfl (fun _ _ => Ev.build (vs := [(0, .agg #[.int .i64 bl.Term, .int .i64 bl.Vote]), (1, .slice A0_18 l.L.length c0_18)]) (cs := [.int .i64 bl.Term, .int .i64 bl.Vote, .slice A0_18 l.L.length c0_18]) rfl (by apply bl_59_0A_1S)) k2 ?_
   refine Tn 8 511 hns rfl (fun _ _ => Ev.nilCheck rfl) k2 <| Tn 9 1023 hns rfl (fun _ _ => Ev.field (q := ⟨g_v, 0, none⟩) fa_61_0 rfl rfl) k2 <| O1 10 rfl ?_
   refine stc rfl rfl rfl sz_32 K18 s5 rfl fun w19 K19 => ?_
   have k3 := ((K19.rm s1).rm s0)
   refine WH.next k3 <| Tn 11 4095 hns rfl (fun _ _ => Ev.nilCheck rfl) k3 <| Tn 12 8191 hns rfl (fun _ _ => Ev.field (q := ⟨g_v, 2, none⟩) fa_61_2 rfl rfl) k3 <| O1 13 rfl ?_
   refine stp rfl rfl rfl sz_59 K19 s0 rfl rfl rfl fun w20 K20 => ?_
   have k4 := ((K20.rm s1).rm s0)
   refine WH.next k4 ?_
   exact Dn ⟨A0_18, c0_18, rfl, K20⟩ rfl
  rintro _ w21 ⟨Aj1, cj1, rfl, K21⟩
  refine rg <| as_ rfl <| dn ?_
  refine WP.ret (Pst.body_ret rfl rfl rfl ?_)
  have hs0 : saveE bl l = 0 := by unfold saveE; rw [if_neg (by rw [hc28]; decide), if_neg]; have h9 := hc111; rw [List.take_of_length_le (by rw [eRecs_len]; omega), ← bytesL_append] at h9; show ¬ 65536 < (bytesL (bRecs bl ++ eRecs 0 l.L)).length; omega
  have hq14 : (0 : Int) = (saveE bl l) := by exact hs0.symm
  have hq15 : ((bytesL (bRecs bl) ++ bytesL ((eRecs 0 l.L).take k)) : List (BitVec 8)) = (if saveE bl l = 0 then bytesL (recsL bl l.L) else []) := by rw [if_pos hs0, List.take_of_length_le (by rw [eRecs_len]; omega), ← bytesL_append]; rfl
  have hq16 : (bl.Term : Int) = (if saveE bl l = 0 then bl.Term else 0) := by rw [if_pos hs0]
  have hq17 : (bl.Vote : Int) = (if saveE bl l = 0 then bl.Vote else 0) := by rw [if_pos hs0]
  have hq18 : (l.L : List AEntry) = (if saveE bl l = 0 then l.L else []) := by rw [if_pos hs0]
  exact ⟨Ad, cd, Aj1, cj1, by rw [← hq14] <;> rfl, by rw [← hq15, ← hq16, ← hq17, ← hq18]; exact (((((((K21.rm s6).rm s5).rm s4).rm s3).sel s1).sel s2).sel s2)⟩
 replace hc40 := not_dec_f hc40
 refine WP.skip (Pst.norm ?_)
 refine rg <| as_ rfl <| dn <| WP.seq <| WP.block ?_
 refine Rn 1 (RN.s ?_)
 refine WP.seq <| WP.draw (by kernel_rfl) (by kernel_rfl) <| WQ.ev (Ev.move rfl) rfl <| WQ.ev (Ev.field (q := ⟨g2, 2, none⟩) fa_26_2 rfl rfl) rfl <| WQ.ev (Ev.loadBoxCell na_24 rfl (K9.x s1) rfl) rfl ?_
 refine WQ.ev (Ev.len Tryz.underlying24 rfl) rfl <| WQ.ev (Ev.move rfl) rfl <| WQ.ev (Ev.nilCheck rfl) rfl <| WQ.ev (Ev.field (q := ⟨g_v, 2, none⟩) fa_61_2 rfl rfl) rfl ?_
 refine WQ.ev (Ev.field (q := ⟨g_v, 4, none⟩) fa_59_1 rfl rfl) rfl <| WQ.ev (Ev.loadBoxCell na_24 rfl (K9.x s3) rfl) rfl <| WQ.ev (Ev.len Tryz.underlying24 rfl) rfl ?_
 refine WQ.ev (Ev.min2 rfl rfl) rfl <| WQ.ev (Ev.lss rfl rfl) rfl ?_
 have hq19 : (decide (0 < (if 0 < ((l.L.length : Nat) : Int) then 0 else ((l.L.length : Nat) : Int))) : Bool) = false := by rw [decide_eq_false_iff_not]; split <;> omega
 refine WQ.re (t := 59) rfl (congrArg Value.bool hq19) <| WQ.ev (Ev.move rfl) rfl <| WQ.pass rfl rfl rfl <| WQ.pass rfl rfl rfl <| WQ.pass rfl rfl rfl <| WQ.pass rfl rfl rfl ?_
 refine WQ.pass rfl rfl rfl <| WQ.pass rfl rfl rfl <| WQ.pass rfl rfl rfl <| WQ.pass rfl rfl rfl <| WQ.pass rfl rfl rfl <| WQ.pass rfl rfl rfl <| WQ.pass rfl rfl rfl ?_
 refine WQ.pass rfl rfl rfl <| WQ.pass rfl rfl rfl <| WQ.pass rfl rfl rfl <| WQ.ev (Ev.pick_f rfl rfl) rfl ?_
 refine WQ.done fun w22 e22 => ?_
 have K22 := K9.grow e22
 refine WP.keep' [(0, .pointer (some ⟨g_v, 0, none⟩)), (4, .pointer (some ⟨g1, 0, none⟩)), (5, .pointer (some ⟨g2, 0, none⟩)), (7, .slice A0_8 (([] : List (BitVec 8)).length) c0_8), (8, .int .i64 0), (75, .bool false)] rfl ?_
 refine WP.cond_end rfl (fun _h => absurd _h (by decide)) (fun _h => ?_)
 refine WP.exit (Pst.then_exit (Pst.then_exit (Pst.blk_eq (Pst.norm ?_))))
 refine WP.seq <| rg <| mv rfl <| ev (Ev.nilCheck rfl) <| ev (Ev.field (q := ⟨g_v, 2, none⟩) fa_61_2 rfl rfl) <| ev (Ev.field (q := ⟨g_v, 4, none⟩) fa_59_1 rfl rfl) ?_
 refine ev (Ev.loadBoxCell na_24 rfl (K22.x s3) rfl) <| ev (Ev.len Tryz.underlying24 rfl) <| mv rfl <| ev (Ev.gtr rfl rfl) <| dn ?_
 refine WP.cond_end rfl (fun _h => absurd _h (by decide)) (fun _h => ?_)
 refine WP.skip (Pst.norm ?_)
 refine WP.seq <| rg <| ev (Ev.field (q := ⟨g2, 2, none⟩) fa_26_2 rfl rfl) <| ev (Ev.loadBoxCell na_24 rfl (K22.x s1) rfl) <| mv rfl <| ev (Ev.cutFrom (lo := 0) (xs := l.L) Tryz.underlying24 sz_68 rfl rfl rfl (by omega) (K22.s s4).cap) ?_
 refine WL.re (t := 93) rfl (show (.slice (cutA B0_l d0_l 0 7) ((l.L.drop 0).length) (d0_l - 0) : Value) = .slice B0_l l.L.length d0_l by rw [cutA_zero]; rfl) ?_
 refine ev (Ev.len Tryz.underlying24 rfl) <| mv rfl <| dn <| WP.block ?_
 have hq20 : (([] : List (BitVec 8)) : List (BitVec 8)) = (bytesL (bRecs bl) ++ bytesL ((eRecs 0 l.L).take 0)) := by unfold bRecs; first | (rw [if_neg hc40]; simp [bytesL, recB, bRec]; done) | (rw [if_pos (by simpa using hc40)]; rfl)
 refine WP.re (t := 7) rfl (congrArg (fun z => Value.slice A0_8 (List.length z) c0_8) hq20) ?_
 rw [hq20] at K22
 refine Lp (K22.rm s0) (fun l0 rk mJ lJ wJ => ∃ (k : Nat) (Ad : Option Addr) (cd : Nat), lJ = (7, .slice Ad ((bytesL (bRecs bl) ++ bytesL ((eRecs 0 l.L).take k)).length) cd) :: (95, .int .i64 ((k : Nat) : Int)) :: l0 ∧ mJ = l.L.length - k ∧ k ≤ l.L.length ∧ Hp b S wJ (rOwn tByte 5 Ad cd (bytesL (bRecs bl) ++ bytesL ((eRecs 0 l.L).take k)) :: rk)) ⟨0, A0_8, c0_8, rfl, rfl, Nat.zero_le _, K22⟩ rfl ?_
 rintro _ _ w23 ⟨k, Ad, cd, rfl, rfl, hk, K23⟩
 refine rg <| ev (Ev.lss rfl rfl) <| dn ?_
 refine WP.cond rfl (fun hc96 => ?_) (fun hc96 => ?_)
 ·
  replace hc96 := of_decide_eq_true hc96
  refine WP.skip (Pst.norm ?_)
  refine WP.seq <| WP.block <| rg <| mv rfl ?_
  obtain ⟨x2, hx2⟩ := get_some (xs := l.L) (i := k) (by omega)
  refine ev (Ev.index (i := k) Tryz.underlying24 sz_68 rfl rfl rfl (lt_of_get hx2) ((K23.s s4).some_ hx2)) <| ev (Ev.loadRow ag_68 rfl rfl ((K23.s s4).flat_row hx2)) ?_
  refine al zero_68 rfl K23 fun g5 w24 K24 => ?_
  refine as_ rfl ?_
  refine stw rfl rfl rfl sz_68 K24 s0 rfl rfl fun w25 K25 => ?_
  refine dn ?_
  have hrl := recs_len (k := k) hsb hs64 hso
  refine rge <| mv rfl <| mv rfl <| mv rfl <| ev (Ev.add rfl rfl (I64.mk (by omega) (by omega))) <| ev (Ev.add rfl rfl (I64.mk (by omega) (by omega))) <| ev (Ev.loadBox ag_68 rfl rfl (K25.x s0)) ?_
  refine WL.call rfl rfl rfl cl_24 (numbers_ok (S0 := Any) _ ((0 + k + 1 : Nat) : Int) x2) rfl ?_
  rintro _ w26 ⟨A0_26, c0_26, rfl, h26⟩
  have K26 := K25.f1 h26
  have hL26_0 := (K26.o s0).len_le
  have H10 := K26.fz s0
  have H11 := H10.push (H10.s s0)
  refine WL.call rfl rfl rfl cl_23 (record_ok ((((H11.sel s2).sel s2).sel s2).sel s3) 2 (by omega) (nums_ok (by omega) (hso _ (mem_of_get hx2))) (nums_in (by omega) (hwf _ (mem_of_get hx2))) (Nat.le_of_ble_eq_true rfl) (by omega)) rfl ?_
  rintro _ w27 ⟨A0_27, c0_27, rfl, K27⟩
  have hL27_0 := (K27.o s0).len_le
  refine as_ rfl <| dne ?_
  refine Pst.blk_norm (Pst.norm ?_)
  refine rge <| ev (Ev.add rfl rfl (I64.mk (by omega) (by omega))) <| mv rfl <| dne ?_
  have hq21 : (((bytesL (bRecs bl) ++ bytesL ((eRecs 0 l.L).take k)) ++ recB (2, nats (numsZ ((0 + k + 1 : Nat) : Int) x2))) : List (BitVec 8)) = (bytesL (bRecs bl) ++ bytesL ((eRecs 0 l.L).take (k + 1))) := by rw [bytes_snoc hx2, List.append_assoc]
  refine Pst.re (t := 7) rfl (congrArg (fun z => Value.slice A0_27 (List.length z) c0_27) hq21) ?_
  rw [hq21] at K27
  exact Pst.ag ⟨(k + 1), A0_27, c0_27, rfl, rfl, by omega, ((K27.rm s2).rm s1)⟩ rfl (by omega)
 replace hc96 := of_decide_eq_false hc96
 refine WP.exit (Pst.then_exit (Pst.then_exit (Pst.blk_eq (Pst.norm ?_))))
 refine WP.seq <| rg <| mv rfl <| ev (Ev.len Tryz.underlying32 rfl) <| ev (Ev.gtr rfl rfl) <| dn ?_
 refine WP.cond_end rfl (fun hc111 => ?_) (fun hc111 => ?_)
 ·
  replace hc111 := of_decide_eq_true hc111
  refine rg <| as_ rfl <| dn ?_
  refine WP.ret (Pst.then_ret (Pst.body_ret rfl rfl rfl ?_))
  have hs0 : saveE bl l = 7 := by unfold saveE; rw [if_neg (by rw [hc28]; decide), if_pos]; have h9 := hc111; rw [List.take_of_length_le (by rw [eRecs_len]; omega), ← bytesL_append] at h9; show 65536 < (bytesL (bRecs bl ++ eRecs 0 l.L)).length; omega
  have hq22 : (7 : Int) = (saveE bl l) := by exact hs0.symm
  have H12 := K23.nil tByte 5
  have hq23 : (([] : List (BitVec 8)) : List (BitVec 8)) = (if saveE bl l = 0 then bytesL (recsL bl l.L) else []) := by rw [if_neg (by rw [hs0]; decide)]
  have hq24 : (0 : Int) = (if saveE bl l = 0 then bl.Term else 0) := by rw [if_neg (by rw [hs0]; decide)]
  have hq25 : (0 : Int) = (if saveE bl l = 0 then bl.Vote else 0) := by rw [if_neg (by rw [hs0]; decide)]
  have H13 := H12.nil tEntry 68
  have hq26 : (([] : List AEntry) : List AEntry) = (if saveE bl l = 0 then l.L else []) := by rw [if_neg (by rw [hs0]; decide)]
  exact ⟨none, 0, none, 0, by rw [← hq22] <;> rfl, by rw [← hq23, ← hq24, ← hq25, ← hq26]; exact (((((((H13.rm s6).rm s4).rm s3).rm s2).sel s0).sel s1).sel s2)⟩
 replace hc111 := of_decide_eq_false hc111
 refine WP.skip (Pst.norm ?_)
 refine He K23 (fun _ K => (K.rm s3)) (fun l0 rk lJ wJ => ∃ (Aj2 : Option Addr) (cj2 : Nat), lJ = l0 ∧ Hp b S wJ (rBx g_v 61 [.slice Ad ((bytesL (bRecs bl) ++ bytesL ((eRecs 0 l.L).take k)).length) cd, u1, .int .i64 bl.Term, .int .i64 bl.Vote, .slice Aj2 l.L.length cj2] :: rOwn tEntry 68 Aj2 cj2 l.L :: rk)) (fun hns H14 => ?_) ?_
 ·
  have k5 := (H14.rm s3)
  refine Tm 0 1 hns rfl rfl k5 <| Tm 1 3 hns rfl rfl k5 <| Tm 2 7 hns rfl rfl k5 <| Tn 3 15 hns rfl (fun _ hK => Ev.loadBox ag_23 rfl rfl (hK.x s2)) k5 <| Tn 4 31 hns rfl (fun _ _ => Ev.field (q := ⟨g2, 2, none⟩) fa_26_2 rfl rfl) k5 ?_
  refine Tn 5 63 hns rfl (fun _ hK => Ev.loadBoxCell na_24 rfl (hK.x s1) rfl) k5 <| O1 6 rfl <| WL.call rfl rfl rfl cl_25 (CloneEntry_ok _ (H14.s s4).any (by omega)) rfl ?_
  rintro _ w28 ⟨A0_28, c0_28, rfl, h28⟩
  have K28 := H14.f1 h28
  have hL28_0 := (K28.o s0).len_le
  have k6 := ((K28.rm s4).rm s0)
  refine WH.next k6 <| Tn 7 255 hns rfl (fun _ _ => Ev.build (vs := [(0, .agg #[.int .i64 bl.Term, .int .i64 bl.Vote]), (1, .slice A0_28 l.L.length c0_28)]) (cs := [.int .i64 bl.Term, .int .i64 bl.Vote, .slice A0_28 l.L.length c0_28]) rfl (by apply bl_59_0A_1S)) k6 ?_
  refine Tn 8 511 hns rfl (fun _ _ => Ev.nilCheck rfl) k6 <| Tn 9 1023 hns rfl (fun _ _ => Ev.field (q := ⟨g_v, 0, none⟩) fa_61_0 rfl rfl) k6 <| O1 10 rfl ?_
  refine stc rfl rfl rfl sz_32 K28 s4 rfl fun w29 K29 => ?_
  have k7 := ((K29.rm s1).rm s0)
  refine WH.next k7 <| Tn 11 4095 hns rfl (fun _ _ => Ev.nilCheck rfl) k7 <| Tn 12 8191 hns rfl (fun _ _ => Ev.field (q := ⟨g_v, 2, none⟩) fa_61_2 rfl rfl) k7 <| O1 13 rfl ?_
  refine stp rfl rfl rfl sz_59 K29 s0 rfl rfl rfl fun w30 K30 => ?_
  have k8 := ((K30.rm s1).rm s0)
  refine WH.next k8 ?_
  exact Dn ⟨A0_28, c0_28, rfl, K30⟩ rfl
 rintro _ w31 ⟨Aj2, cj2, rfl, K31⟩
 refine rg <| as_ rfl <| dn ?_
 refine WP.ret (Pst.body_ret rfl rfl rfl ?_)
 have hs0 : saveE bl l = 0 := by unfold saveE; rw [if_neg (by rw [hc28]; decide), if_neg]; have h9 := hc111; rw [List.take_of_length_le (by rw [eRecs_len]; omega), ← bytesL_append] at h9; show ¬ 65536 < (bytesL (bRecs bl ++ eRecs 0 l.L)).length; omega
 have hq27 : (0 : Int) = (saveE bl l) := by exact hs0.symm
 have hq28 : ((bytesL (bRecs bl) ++ bytesL ((eRecs 0 l.L).take k)) : List (BitVec 8)) = (if saveE bl l = 0 then bytesL (recsL bl l.L) else []) := by rw [if_pos hs0, List.take_of_length_le (by rw [eRecs_len]; omega), ← bytesL_append]; rfl
 have hq29 : (bl.Term : Int) = (if saveE bl l = 0 then bl.Term else 0) := by rw [if_pos hs0]
 have hq30 : (bl.Vote : Int) = (if saveE bl l = 0 then bl.Vote else 0) := by rw [if_pos hs0]
 have hq31 : (l.L : List AEntry) = (if saveE bl l = 0 then l.L else []) := by rw [if_pos hs0]
 exact ⟨Ad, cd, Aj2, cj2, by rw [← hq27] <;> rfl, by rw [← hq28, ← hq29, ← hq30, ← hq31]; exact ((((((K31.rm s5).rm s4).rm s3).sel s1).sel s2).sel s2)⟩

theorem Bytes_ok {b w : World} {S : Nat → Prop} {F : List Res} {g_v : Nat} {Ad : Option Addr} {cd : Nat} {ds : List (BitVec 8)} {u1 u2 u3 u4 : Value} (H0 : Hp b S w (rBx g_v 61 [.slice Ad ds.length cd, u1, u2, u3, u4] :: rOwn tByte 5 Ad cd ds :: F)) (hn : ds.length ≤ 70000) :
    Rets Tryz.prog 7 #[.pointer (some ⟨g_v, 0, none⟩)] w fun v w' => ∃ (A0 : Option Addr) (c0 : Nat), v = .slice A0 ds.length c0 ∧ Hp b S w' (rOwn tByte 5 A0 c0 ds :: rBx g_v 61 [.slice Ad ds.length cd, u1, u2, u3, u4] :: rOwn tByte 5 Ad cd ds :: F) := by
 refine WP.enter Tryz.func7 rfl Tryz.ntmps7 rfl <| rg <| as_ rfl <| dn <| rg <| mv rfl <| ev (Ev.nilCheck rfl) <| ev (Ev.field (q := ⟨g_v, 0, none⟩) fa_61_0 rfl rfl) ?_
 refine ev (Ev.loadBoxCell na_32 rfl (H0.x s0) rfl) <| WL.call rfl rfl rfl cl_22 (CloneByte_ok _ (H0.o s1) (by omega)) rfl ?_
 rintro _ w1 ⟨A0_1, c0_1, rfl, h1⟩
 have K1 := H0.f1 h1
 refine as_ rfl <| dn ?_
 refine WP.ret (Pst.body_ret rfl rfl rfl ?_)
 exact ⟨A0_1, c0_1, rfl, K1⟩

theorem VNew_ok {b w : World} {S : Nat → Prop} {F : List Res}  (H0 : Hp b S w F)  :
    Rets Tryz.prog 5 #[] w fun v w' => ∃ (gv : Nat), v = .pointer (some ⟨gv, 0, none⟩) ∧ Hp b S w' (rBx gv 61 [.slice none 0 0, .int .i64 0, .int .i64 0, .int .i64 0, .slice none 0 0] :: F) := by
 refine WP.enter Tryz.func5 rfl Tryz.ntmps5 rfl <| rg <| as_ rfl <| dn <| rg <| ev (Ev.build (vs := []) (cs := [.slice none 0 0, .int .i64 0, .int .i64 0, .int .i64 0, .slice none 0 0]) rfl (by apply bl_61_)) ?_
 refine bx rfl rfl H0 fun g1 w1 K1 => ?_
 refine as_ rfl <| dn ?_
 refine WP.ret (Pst.body_ret rfl rfl rfl ?_)
 exact ⟨g1, rfl, K1⟩

end Go.Proofs.YtlnjmkmhmbijmaaGreat
