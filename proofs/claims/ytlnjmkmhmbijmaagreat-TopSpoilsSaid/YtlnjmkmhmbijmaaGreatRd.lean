/- Contracts of functions: what each call hands back, and that it leaves all that was there as it was. -/
import Derived.Test.YtlnjmkmhmbijmaaGreatFrm
set_option maxRecDepth 4000
set_option linter.all false
namespace Go.Proofs.YtlnjmkmhmbijmaaGreat
open Go.RowKit

theorem num_bd {l : List (BitVec 8)} (h : l.length ≤ 6) : numL l * 256 + 255 ≤ 9223372036854775807 ∧ numL l * 2 ^ 8 ≤ 9223372036854775807 := by
  have h1 := numL_lt l
  have h2 : 256 ^ l.length ≤ 256 ^ 6 := Nat.pow_le_pow_right (by decide) h
  omega
theorem sub_at {bs a r : List (BitVec 8)} {p : Nat} (h : bs.drop p = a ++ r) : (bs.take (p + a.length)).drop p = a := by
  rw [List.drop_take, h, show p + a.length - p = a.length from by omega]; simp
theorem sub_len {bs a r : List (BitVec 8)} {p : Nat} (h : bs.drop p = a ++ r) (h2 : 0 < a.length) : p + a.length ≤ bs.length := by
  have := congrArg List.length h
  simp only [List.length_drop, List.length_append] at this; omega
theorem fld1 {bs rest : List (BitVec 8)} {n ra : Nat} (h : bs.drop ra = fldL n ++ rest) (hn : n < 2 ^ 56) :
    numL ((bs.take (ra + 1)).drop ra) = sizeN n ∧ ra + 1 + sizeN n ≤ bs.length ∧ numL ((bs.take (ra + 1 + sizeN n)).drop (ra + 1)) = n ∧ (0 < sizeN n → ∃ c, bs[ra + 1]? = some c ∧ c ≠ 0#8) ∧ sizeN n ≤ 7 := by
  have h7 := sizeN_le hn
  have e1 : bs.drop ra = [b8 (sizeN n)] ++ (beB n (sizeN n) ++ rest) := h
  have e2 : bs.drop (ra + 1) = beB n (sizeN n) ++ rest := by rw [← List.drop_drop, e1]; rfl
  have hl := sub_len h (by unfold fldL; simp)
  have hfl : (fldL n).length = 1 + sizeN n := by unfold fldL; rw [List.length_cons, beB_length]; omega
  refine ⟨?_, by omega, ?_, fun h0 => ?_, h7⟩
  · have := sub_at e1
    rw [show [b8 (sizeN n)].length = 1 from rfl] at this
    rw [this]; simp only [numL, List.foldl_cons, List.foldl_nil, b8, BitVec.toNat_ofNat]; omega
  · have := sub_at e2
    rw [beB_length] at this
    rw [this]; exact numL_beB _ _ sizeN_lt
  · obtain ⟨c, l, hc, hc0⟩ := beB_zero h0 (sizeN_top h0) sizeN_lt
    refine ⟨c, ?_, hc0⟩
    have : (bs.drop (ra + 1))[0]? = some c := by rw [e2, hc]; rfl
    rw [List.getElem?_drop] at this; simpa using this
def offL (ns : List Nat) (k : Nat) : Nat := ((ns.take k).flatMap fldL).length
theorem offL_succ {ns : List Nat} {k n : Nat} (h : ns[k]? = some n) : offL ns (k + 1) = offL ns k + (fldL n).length := by unfold offL; rw [take_snoc h]; simp
theorem pack_at {ns : List Nat} {k n : Nat} (h : ns[k]? = some n) : (packL ns).drop (1 + offL ns k) = fldL n ++ ((ns.drop (k + 1)).flatMap fldL ++ [0#8, 0#8]) := by
  obtain ⟨hk, hn⟩ := List.getElem?_eq_some_iff.1 h
  have e : packL ns = (b8 ns.length :: (ns.take k).flatMap fldL) ++ (fldL n ++ ((ns.drop (k + 1)).flatMap fldL ++ [0#8, 0#8])) := by
    have e2 : ns.flatMap fldL = (ns.take k).flatMap fldL ++ (ns.drop k).flatMap fldL := by rw [← List.flatMap_append, List.take_append_drop]
    unfold packL
    rw [e2, List.drop_eq_getElem_cons hk, hn, List.flatMap_cons]
    simp
  rw [e, show 1 + offL ns k = (b8 ns.length :: (ns.take k).flatMap fldL).length from by unfold offL; simp; omega]
  simp
theorem pack_end (ns : List Nat) : (packL ns).drop (1 + offL ns ns.length) = [0#8, 0#8] ∧ (packL ns).length = 1 + offL ns ns.length + 2 := by
  unfold packL offL
  rw [List.take_length]
  constructor
  · rw [Nat.add_comm 1, List.drop_succ_cons]; simp
  · simp only [List.length_cons, List.length_append, List.length_nil]; omega
theorem pack_one {ns : List Nat} (h : ns.length ≤ 255) : numL (((packL ns).take (0 + 1)).drop 0) = ns.length ∧ 1 ≤ (packL ns).length := by
  unfold packL
  constructor
  · simp only [List.take_succ_cons, List.take_zero, List.drop_zero, numL, List.foldl_cons, List.foldl_nil, b8, BitVec.toNat_ofNat]; omega
  · simp
theorem num_two {bs : List (BitVec 8)} {p : Nat} (h : bs.drop p = [0#8, 0#8]) : numL ((bs.take (p + 2)).drop p) = 0 := by
  have := sub_at (a := [0#8, 0#8]) (r := []) h
  rw [show [0#8, 0#8].length = 2 from rfl] at this
  rw [this]; rfl
abbrev casts (ns : List Nat) : List Int := ns.map fun (n : Nat) => (n : Int)
theorem casts_snoc {ns : List Nat} {k n : Nat} (h : ns[k]? = some n) : casts (ns.take k) ++ [(n : Int)] = casts (ns.take (k + 1)) := by rw [take_snoc h]; simp [casts]

theorem fa_352_2 : FieldAt Tryz.prog 352 2 2 := fun _ _ => by kernel_rfl
theorem na_30 : NotAgg Tryz.prog 30 := fun _ => by kernel_rfl
theorem fa_352_0 : FieldAt Tryz.prog 352 0 0 := fun _ _ => by kernel_rfl
theorem fa_352_1 : FieldAt Tryz.prog 352 1 1 := fun _ _ => by kernel_rfl
theorem cl_252 : Callable Tryz.prog 252 := fun _ _ => by kernel_rfl
theorem cl_250 : Callable Tryz.prog 250 := fun _ _ => by kernel_rfl
theorem zero_128 : ∀ w, (zeroValue 128).run Tryz.prog w = .ok (.agg #[.slice none 0 0, .slice none 0 0]) w := fun _ => by kernel_rfl
theorem bl_352_0S (a0 : Option Addr) (a0n a0c : Nat) : Tryz.prog.built 352 [(0, .slice a0 a0n a0c)] = some #[.slice a0 a0n a0c, .int .i64 0, .int .i64 0] := by kernel_rfl
theorem zero_352 : ∀ w, (zeroValue 352).run Tryz.prog w = .ok (.agg #[.slice none 0 0, .int .i64 0, .int .i64 0]) w := fun _ => by kernel_rfl
theorem sz_352 : Size Tryz.prog 352 3 := fun _ => by kernel_rfl
theorem cl_251 : Callable Tryz.prog 251 := fun _ _ => by kernel_rfl
theorem bs_72_1_I (a0 : Int) : ∀ w, (Instr.buildSlice 72 1 (List.toArray [(0, .int .i64 a0)])).run Tryz.prog w = .ok (.slice (some ⟨w.heap.size, 0, none⟩) 1 1) (w.alloc (.cells (List.toArray [.int .i64 a0]) 3)) := fun _ => by kernel_rfl
theorem sz_72 : Size Tryz.prog 72 1 := fun _ => by kernel_rfl
theorem sz_32 : Size Tryz.prog 32 1 := fun _ => by kernel_rfl
theorem sz_128 : Size Tryz.prog 128 2 := fun _ => by kernel_rfl
theorem ag_128 : Agg Tryz.prog 128 2 := ⟨fun _ => by kernel_rfl, sz_128⟩
theorem take_ok {b w : World} {S : Nat → Prop} {F : List Res} {g_r : Nat} {Ab : Option Addr} {cb : Nat} {bs : List (BitVec 8)} {ra : Nat} (H0 : Hp b S w (rBx g_r 352 [.slice Ab bs.length cb, .int .i64 ((ra : Nat) : Int), .int .i64 0] :: rSl tByte Ab cb bs :: F)) (n : Nat) (h : ra + n ≤ bs.length) :
    Rets Tryz.prog 252 #[.pointer (some ⟨g_r, 0, none⟩), .int .i64 ((n : Nat) : Int)] w fun v w' => ∃ (A0 : Option Addr) (c0 : Nat), v = .slice A0 (((bs.take (ra + n)).drop ra).length) c0 ∧ Hp b S w' (rSl tByte A0 c0 ((bs.take (ra + n)).drop ra) :: rBx g_r 352 [.slice Ab bs.length cb, .int .i64 ((ra + n : Nat) : Int), .int .i64 0] :: rSl tByte Ab cb bs :: F) := by
 refine WP.enter Tryz.func252 rfl Tryz.ntmps252 rfl ?_
 have hbl := (H0.s s1).len_le
 refine rg <| as_ rfl <| dn <| WP.seq <| WP.draw (by kernel_rfl) (by kernel_rfl) <| WQ.ev (Ev.move rfl) rfl <| WQ.ev (Ev.nilCheck rfl) rfl <| WQ.ev (Ev.field (q := ⟨g_r, 2, none⟩) fa_352_2 rfl rfl) rfl ?_
 refine WQ.ev (Ev.loadBoxCell na_30 rfl (H0.x s0) rfl) rfl <| WQ.ev (Ev.neq rfl rfl) rfl <| WQ.ev (Ev.move rfl) rfl <| WQ.evg rfl (Ev.move rfl) rfl <| WQ.evg rfl (Ev.nilCheck rfl) rfl ?_
 refine WQ.evg rfl (Ev.field (q := ⟨g_r, 0, none⟩) fa_352_0 rfl rfl) rfl <| WQ.evg rfl (Ev.loadBoxCell na_32 rfl (H0.x s0) rfl) rfl <| WQ.evg rfl (Ev.len Tryz.underlying32 rfl) rfl ?_
 refine WQ.evg rfl (Ev.move rfl) rfl <| WQ.evg rfl (Ev.nilCheck rfl) rfl <| WQ.evg rfl (Ev.field (q := ⟨g_r, 1, none⟩) fa_352_1 rfl rfl) rfl <| WQ.evg rfl (Ev.loadBoxCell na_3 rfl (H0.x s0) rfl) rfl ?_
 refine WQ.evg rfl (Ev.subN (a := bs.length) (b := ra) rfl rfl rfl (by omega) (by omega)) rfl <| WQ.evg rfl (Ev.move rfl) rfl <| WQ.evg rfl (Ev.lss rfl rfl) rfl ?_
 refine WQ.ev (Ev.pick_f rfl rfl) rfl ?_
 refine WQ.done fun w1 e1 => ?_
 have K1 := H0.grow e1
 refine WP.cond_end rfl (fun hc23 => ?_) (fun hc23 => ?_)
 ·
  replace hc23 := of_decide_eq_true hc23
  omega
 replace hc23 := of_decide_eq_false hc23
 refine WP.skip (Pst.norm ?_)
 refine rg <| mv rfl <| ev (Ev.nilCheck rfl) <| ev (Ev.field (q := ⟨g_r, 1, none⟩) fa_352_1 rfl rfl) <| ev (Ev.loadBoxCell na_3 rfl (K1.x s0) rfl) <| mv rfl <| ev (Ev.add rfl rfl (I64.mk (by omega) (by omega))) ?_
 refine ev (Ev.nilCheck rfl) <| ev (Ev.field (q := ⟨g_r, 1, none⟩) fa_352_1 rfl rfl) ?_
 refine stc rfl rfl rfl sz_3 K1 s0 rfl fun w2 K2 => ?_
 refine dn <| WP.draw (by kernel_rfl) (by kernel_rfl) <| WQ.ev (Ev.move rfl) rfl <| WQ.ev (Ev.nilCheck rfl) rfl <| WQ.ev (Ev.field (q := ⟨g_r, 0, none⟩) fa_352_0 rfl rfl) rfl ?_
 refine WQ.ev (Ev.loadBoxCell na_32 rfl (K2.x s0) rfl) rfl <| WQ.ev (Ev.move rfl) rfl <| WQ.ev (Ev.nilCheck rfl) rfl <| WQ.ev (Ev.field (q := ⟨g_r, 1, none⟩) fa_352_1 rfl rfl) rfl ?_
 refine WQ.ev (Ev.loadBoxCell na_3 rfl (K2.x s0) rfl) rfl <| WQ.ev (Ev.move rfl) rfl <| WQ.ev (Ev.sub rfl rfl (I64.mk (by omega) (by omega))) rfl <| WQ.re (t := 49) rfl (congrArg (Value.int .i64) (show (((ra + n : Nat) : Int) - ((n : Nat) : Int) : Int) = ((ra : Nat) : Int) by omega)) ?_
 refine WQ.ev (Ev.move rfl) rfl <| WQ.ev (Ev.nilCheck rfl) rfl <| WQ.ev (Ev.field (q := ⟨g_r, 1, none⟩) fa_352_1 rfl rfl) rfl <| WQ.ev (Ev.loadBoxCell na_3 rfl (K2.x s0) rfl) rfl ?_
 refine WQ.ev (Ev.move rfl) rfl <| WQ.ev (Ev.nilCheck rfl) rfl <| WQ.ev (Ev.field (q := ⟨g_r, 1, none⟩) fa_352_1 rfl rfl) rfl <| WQ.ev (Ev.loadBoxCell na_3 rfl (K2.x s0) rfl) rfl ?_
 refine WQ.ev (Ev.cut4 (lo := ra) (hi := ra + n) (xs := bs) Tryz.underlying32 sz_5 rfl rfl rfl rfl rfl rfl rfl (by omega) (by omega) (K2.s s1).cap) rfl <| WQ.ev (Ev.assign rfl) rfl ?_
 refine WQ.done fun w3 e3 => ?_
 have K3 := K2.grow e3
 refine WP.ret (Pst.body_ret rfl rfl rfl ?_)
 have H1 := K3.push ((K3.s s1).cut4 (lo := ra) (hi := ra + n) (by omega) (by omega))
 exact ⟨(cutA Ab (ra + n) ra 1), ((ra + n) - ra), rfl, H1⟩

theorem number_ok {b w : World} {S : Nat → Prop} {F : List Res} {g_r : Nat} {Ab : Option Addr} {cb : Nat} {bs : List (BitVec 8)} {ra : Nat} (H0 : Hp b S w (rBx g_r 352 [.slice Ab bs.length cb, .int .i64 ((ra : Nat) : Int), .int .i64 0] :: rSl tByte Ab cb bs :: F)) (size : Nat) (h : ra + size ≤ bs.length) (h7 : size ≤ 7) :
    Rets Tryz.prog 250 #[.pointer (some ⟨g_r, 0, none⟩), .int .i64 ((size : Nat) : Int)] w fun v w' => v = .int .i64 ((numL ((bs.take (ra + size)).drop ra) : Nat) : Int) ∧ Hp b S w' (rBx g_r 352 [.slice Ab bs.length cb, .int .i64 ((ra + size : Nat) : Int), .int .i64 0] :: rSl tByte Ab cb bs :: F) := by
 refine WP.enter Tryz.func250 rfl Tryz.ntmps250 rfl ?_
 have hbl := (H0.s s1).len_le
 refine rg <| as_ rfl <| dn <| rg <| as_ rfl <| dn <| WP.seq <| rg <| mv rfl <| mv rfl <| WL.call rfl rfl rfl cl_252 (take_ok H0 size (by omega)) rfl ?_
 rintro _ w1 ⟨A0_1, c0_1, rfl, K1⟩
 have hL1_0 := (K1.s s0).len_le
 refine ev (Ev.len Tryz.underlying32 rfl) <| mv rfl <| dn <| WP.block ?_
 have hq1 : (0 : Int) = ((numL (((bs.take (ra + size)).drop ra).take 0) : Nat) : Int) := by rfl
 refine WP.re (t := 5) rfl (congrArg (Value.int .i64) hq1) <| Lp K1 (fun l0 rk mJ lJ wJ => ∃ (k : Nat), lJ = (5, .int .i64 ((numL (((bs.take (ra + size)).drop ra).take k) : Nat) : Int)) :: (12, .int .i64 ((k : Nat) : Int)) :: l0 ∧ mJ = ((bs.take (ra + size)).drop ra).length - k ∧ k ≤ ((bs.take (ra + size)).drop ra).length ∧ Hp b S wJ rk) ⟨0, rfl, rfl, Nat.zero_le _, K1⟩ rfl ?_
 rintro _ _ w2 ⟨k, rfl, rfl, hk, K2⟩
 have hxl : ((bs.take (ra + size)).drop ra).length = size := by rw [List.length_drop, List.length_take]; omega
 refine rg <| ev (Ev.lss rfl rfl) <| dn ?_
 refine WP.cond rfl (fun hc13 => ?_) (fun hc13 => ?_)
 ·
  replace hc13 := of_decide_eq_true hc13
  refine WP.skip (Pst.norm ?_)
  refine WP.seq <| WP.block <| rg ?_
  obtain ⟨x1, hx1⟩ := get_some (xs := ((bs.take (ra + size)).drop ra)) (i := k) (by omega)
  refine ev (Ev.index (i := k) Tryz.underlying32 sz_5 rfl rfl rfl (lt_of_get hx1) ((K2.s s0).some_ hx1)) <| ev (Ev.loadCell na_5 rfl ((K2.s s0).flat_cell (j := 0) hx1 rfl)) ?_
  refine as_ rfl <| dn ?_
  have hnb := num_bd (l := ((bs.take (ra + size)).drop ra).take k) (by rw [List.length_take]; omega)
  refine rge <| mv rfl <| ev (Ev.shlI (m := numL (((bs.take (ra + size)).drop ra).take k)) (c := 8) rfl rfl (by omega) (by exact hnb.2)) <| mv rfl <| ev (Ev.convNat (m := (x1).toNat) cv_5_3.1 cv_5_3.2.1 cv_5_3.2.2 rfl (wrap_nat_i64 (by have := (x1).isLt; omega))) ?_
  refine ev (Ev.orI (m := numL (((bs.take (ra + size)).drop ra).take k)) (c := (x1).toNat) rfl rfl (by exact x1.isLt) (by have := x1.isLt; omega)) <| as_ rfl <| dne ?_
  refine Pst.blk_norm (Pst.norm ?_)
  refine rge <| ev (Ev.add rfl rfl (I64.mk (by omega) (by omega))) <| mv rfl <| dne ?_
  have hq2 : ((((numL (((bs.take (ra + size)).drop ra).take k)) * 256 + ((x1).toNat) : Nat) : Int) : Int) = ((numL (((bs.take (ra + size)).drop ra).take (k + 1)) : Nat) : Int) := by rw [take_snoc hx1, numL_snoc]
  refine Pst.re (t := 5) rfl (congrArg (Value.int .i64) hq2) ?_
  exact Pst.ag ⟨(k + 1), rfl, rfl, by omega, K2⟩ rfl (by omega)
 replace hc13 := of_decide_eq_false hc13
 refine WP.exit (Pst.then_exit (Pst.then_exit (Pst.blk_eq (Pst.norm ?_))))
 refine rg <| mv rfl <| as_ rfl <| dn ?_
 refine WP.ret (Pst.body_ret rfl rfl rfl ?_)
 have hq3 : (((numL (((bs.take (ra + size)).drop ra).take k) : Nat) : Int) : Int) = ((numL ((bs.take (ra + size)).drop ra) : Nat) : Int) := by rw [List.take_of_length_le (by omega)]
 exact ⟨by rw [← hq3] <;> rfl, (K2.rm s0)⟩

theorem field_ok {b w : World} {S : Nat → Prop} {F : List Res} {g_r : Nat} {Ab : Option Addr} {cb : Nat} {bs : List (BitVec 8)} {ra : Nat} {n : Nat} {rest : List (BitVec 8)} (H0 : Hp b S w (rBx g_r 352 [.slice Ab bs.length cb, .int .i64 ((ra : Nat) : Int), .int .i64 0] :: rSl tByte Ab cb bs :: F)) (hb : bs.drop ra = fldL n ++ rest) (hn : n < 2 ^ 56) :
    Rets Tryz.prog 251 #[.pointer (some ⟨g_r, 0, none⟩)] w fun v w' => v = .int .i64 ((n : Nat) : Int) ∧ Hp b S w' (rBx g_r 352 [.slice Ab bs.length cb, .int .i64 ((ra + 1 + sizeN n : Nat) : Int), .int .i64 0] :: rSl tByte Ab cb bs :: F) := by
 refine WP.enter Tryz.func251 rfl Tryz.ntmps251 rfl ?_
 have hbl := (H0.s s1).len_le
 obtain ⟨hf1, hf2, hf3, hf4, hf5⟩ := fld1 hb hn
 refine rg <| as_ rfl <| dn <| rg <| mv rfl <| WL.call rfl rfl rfl cl_250 (number_ok H0 1 (by omega) (by omega)) rfl ?_
 rintro _ w1 ⟨rfl, K1⟩
 refine WL.re (t := 5) rfl (congrArg (Value.int .i64) (show (((numL ((bs.take (ra + 1)).drop ra) : Nat) : Int) : Int) = ((sizeN n : Nat) : Int) by omega)) <| as_ rfl ?_
 refine dn <| WP.seq <| rg <| mv rfl <| ev (Ev.nilCheck rfl) <| ev (Ev.field (q := ⟨g_r, 2, none⟩) fa_352_2 rfl rfl) <| ev (Ev.loadBoxCell na_30 rfl (K1.x s0) rfl) ?_
 refine ev (Ev.eql rfl rfl) <| mv rfl <| WL.evg rfl (Ev.move rfl) rfl <| WL.evg rfl (Ev.gtr rfl rfl) rfl <| ev (Ev.pick_t rfl rfl) <| dn ?_
 refine WP.cond_end rfl (fun hc14 => ?_) (fun hc14 => ?_)
 ·
  replace hc14 := of_decide_eq_true hc14
  omega
 replace hc14 := of_decide_eq_false hc14
 refine WP.skip (Pst.norm ?_)
 refine WP.seq <| WP.draw (by kernel_rfl) (by kernel_rfl) <| WQ.ev (Ev.move rfl) rfl <| WQ.ev (Ev.nilCheck rfl) rfl <| WQ.ev (Ev.field (q := ⟨g_r, 2, none⟩) fa_352_2 rfl rfl) rfl ?_
 refine WQ.ev (Ev.loadBoxCell na_30 rfl (K1.x s0) rfl) rfl <| WQ.ev (Ev.eql rfl rfl) rfl <| WQ.ev (Ev.move rfl) rfl <| WQ.evg rfl (Ev.move rfl) rfl <| WQ.evg rfl (Ev.gtr rfl rfl) rfl ?_
 refine WQ.ev (Ev.pick_t rfl rfl) rfl <| WQ.ev (Ev.move rfl) rfl ?_
 refine WQ.cutb 11 38 ((decide (0 < ((sizeN n : Nat) : Int))) && (decide (((ra + 1 : Nat) : Int) < ((bs.length : Nat) : Int)))) ?_ ?_
 ·
  cases hb27 : decide (0 < ((sizeN n : Nat) : Int)) with
  | true =>
   have hb27p := of_decide_eq_true hb27
   refine WQ.evg rfl (Ev.move rfl) rfl <| WQ.evg rfl (Ev.nilCheck rfl) rfl <| WQ.evg rfl (Ev.field (q := ⟨g_r, 1, none⟩) fa_352_1 rfl rfl) rfl <| WQ.evg rfl (Ev.loadBoxCell na_3 rfl (K1.x s0) rfl) rfl ?_
   refine WQ.evg rfl (Ev.move rfl) rfl <| WQ.evg rfl (Ev.nilCheck rfl) rfl <| WQ.evg rfl (Ev.field (q := ⟨g_r, 0, none⟩) fa_352_0 rfl rfl) rfl <| WQ.evg rfl (Ev.loadBoxCell na_32 rfl (K1.x s0) rfl) rfl ?_
   refine WQ.evg rfl (Ev.len Tryz.underlying32 rfl) rfl <| WQ.evg rfl (Ev.lss rfl rfl) rfl <| WQ.ev (Ev.pick_t rfl rfl) rfl ?_
   exact WQ.cend rfl
  | false =>
   refine WQ.pass rfl rfl rfl <| WQ.pass rfl rfl rfl <| WQ.pass rfl rfl rfl <| WQ.pass rfl rfl rfl <| WQ.pass rfl rfl rfl <| WQ.pass rfl rfl rfl <| WQ.pass rfl rfl rfl ?_
   refine WQ.pass rfl rfl rfl <| WQ.pass rfl rfl rfl <| WQ.pass rfl rfl rfl <| WQ.ev (Ev.pick_f rfl rfl) rfl ?_
   exact WQ.cend rfl
 refine WQ.ev (Ev.move rfl) rfl ?_
 refine WQ.cutb 12 51 false ?_ ?_
 ·
  cases hb39 : ((decide (0 < ((sizeN n : Nat) : Int))) && (decide (((ra + 1 : Nat) : Int) < ((bs.length : Nat) : Int)))) with
  | true =>
   have hb39p := hb39
   try simp only [Bool.and_eq_true, Bool.and_eq_false_imp, decide_eq_true_eq, decide_eq_false_iff_not] at hb39p
   have hb39q := hb39
   simp only [Bool.and_eq_true, decide_eq_true_eq] at hb39q
   refine WQ.evg rfl (Ev.move rfl) rfl <| WQ.evg rfl (Ev.nilCheck rfl) rfl <| WQ.evg rfl (Ev.field (q := ⟨g_r, 0, none⟩) fa_352_0 rfl rfl) rfl <| WQ.evg rfl (Ev.loadBoxCell na_32 rfl (K1.x s0) rfl) rfl ?_
   refine WQ.evg rfl (Ev.move rfl) rfl <| WQ.evg rfl (Ev.nilCheck rfl) rfl <| WQ.evg rfl (Ev.field (q := ⟨g_r, 1, none⟩) fa_352_1 rfl rfl) rfl <| WQ.evg rfl (Ev.loadBoxCell na_3 rfl (K1.x s0) rfl) rfl ?_
   obtain ⟨x1, hx1⟩ := get_some (xs := bs) (i := ra + 1) (by omega)
   refine WQ.evg rfl (Ev.index (i := ra + 1) Tryz.underlying32 sz_5 rfl rfl rfl (lt_of_get hx1) ((K1.s s1).some_ hx1)) rfl <| WQ.evg rfl (Ev.loadCell na_5 rfl ((K1.s s1).flat_cell (j := 0) hx1 rfl)) rfl ?_
   refine WQ.evg rfl (Ev.eql rfl rfl) rfl <| WQ.ev (Ev.pick_t rfl rfl) rfl <| WQ.re (t := 51) (u := .bool (decide (((x1).toNat : Int) = 0))) (v := .bool false) rfl (congrArg Value.bool (by obtain ⟨c, h5, h6⟩ := hf4 (by simp at hb39; omega); rw [h5] at hx1; cases hx1; exact decide_eq_false (fun h => h6 (BitVec.eq_of_toNat_eq (by simpa using h))))) ?_
   exact WQ.cend rfl
  | false =>
   refine WQ.pass rfl rfl rfl <| WQ.pass rfl rfl rfl <| WQ.pass rfl rfl rfl <| WQ.pass rfl rfl rfl <| WQ.pass rfl rfl rfl <| WQ.pass rfl rfl rfl <| WQ.pass rfl rfl rfl ?_
   refine WQ.pass rfl rfl rfl <| WQ.pass rfl rfl rfl <| WQ.pass rfl rfl rfl <| WQ.pass rfl rfl rfl <| WQ.ev (Ev.pick_f rfl rfl) rfl <| WQ.re (t := 51) (u := .bool false) (v := .bool false) rfl (congrArg Value.bool (by rfl)) ?_
   exact WQ.cend rfl
 refine WQ.done fun w2 e2 => ?_
 have K2 := K1.grow e2
 refine WP.cond_end rfl (fun _h => absurd _h (by decide)) (fun _h => ?_)
 refine WP.skip (Pst.norm ?_)
 refine rg <| mv rfl <| mv rfl <| WL.call rfl rfl rfl cl_250 (number_ok K2 (sizeN n) (by omega) (by omega)) rfl ?_
 rintro _ w3 ⟨rfl, K3⟩
 refine WL.re (t := 57) rfl (congrArg (Value.int .i64) (show (((numL ((bs.take ((ra + 1) + (sizeN n))).drop (ra + 1)) : Nat) : Int) : Int) = ((n : Nat) : Int) by omega)) ?_
 refine as_ rfl <| dn ?_
 refine WP.ret (Pst.body_ret rfl rfl rfl ?_)
 have hq1 : ((((ra + 1) + (sizeN n) : Nat) : Int) : Int) = ((ra + 1 + sizeN n : Nat) : Int) := by first | with_reducible rfl | (simp; done) | omega
 exact ⟨rfl, by rw [← hq1]; exact K3⟩

theorem Cut_ok {S0 : Nat → Prop} (w : World) {A_b : Option Addr} {c_b : Nat} {b : List (BitVec 8)} (h_b : Sl tByte S0 w A_b c_b b) {ns : List Nat} (hb : b = packL ns) (hn56 : ∀ n ∈ ns, n < 2 ^ 56) (hl : ns.length ≤ 255) :
    Rets Tryz.prog 182 #[.slice A_b b.length c_b] w fun v w' => ∃ (B0_0 : Option Addr) (d0_0 : Nat) (B0_1 : Option Addr) (d0_1 : Nat), v = .tuple #[.agg #[.slice B0_0 (((⟨casts ns, []⟩ : AFields).N).length) d0_0, .slice B0_1 (((⟨casts ns, []⟩ : AFields).Data).length) d0_1], .int .i64 ((b.length : Nat) : Int), .int .i64 0] ∧ Hp w S0 w' [rOwn tInt 3 B0_0 d0_0 ((⟨casts ns, []⟩ : AFields).N), rOwn tByte 5 B0_1 d0_1 ((⟨casts ns, []⟩ : AFields).Data)] := by
 refine WP.enter Tryz.func182 rfl Tryz.ntmps182 rfl ?_
 have H0 := Hp.init w S0
 have hb_b := h_b.len_le
 obtain ⟨hp1, hp2⟩ := pack_one hl
 obtain ⟨he1, he2⟩ := pack_end ns
 rw [← hb] at hp1 hp2 he1 he2
 refine rg ?_
 refine al zero_128 rfl H0 fun g1 w1 K1 => ?_
 refine as_ rfl <| as_ rfl <| dn ?_
 refine WP.jumps (lb := 0) (fun mJ lJ wJ => ∃ (k : Nat) (gr : Nat) (gf : Nat) (A1 : Option Addr) (c1 : Nat), lJ = [(2, .pointer (some ⟨g1, 0, none⟩)), (5, .pointer (some ⟨gr, 0, none⟩)), (6, .pointer (some ⟨gf, 0, none⟩)), (7, .int .i64 ((ns.length - k : Nat) : Int))] ∧ mJ = ns.length - k ∧ (k ≤ ns.length) ∧ Hp w S0 wJ [rOwn tInt 3 A1 c1 (casts (ns.take k)), rBx gr 352 [.slice A_b b.length c_b, .int .i64 ((1 + offL ns k : Nat) : Int), .int .i64 0], rBx gf 128 [.slice A1 ((casts (ns.take k)).length) c1, .slice none 0 0], rSl tByte A_b c_b b, rBx g1 128 [.slice none 0 0, .slice none 0 0]]) rfl ?_ ?_
 ·
  rintro _ _ w6 ⟨k, gr, gf, A1, c1, rfl, rfl, hk, K6⟩
  refine WP.seq <| rg <| mv rfl <| ev (Ev.gtr rfl rfl) <| mv rfl ?_
  refine WL.cutb 4 18 ((decide (0 < ((ns.length - k : Nat) : Int))) && (decide (0 = 0))) ?_ ?_
  ·
   cases hb14 : decide (0 < ((ns.length - k : Nat) : Int)) with
   | true =>
    have hb14p := of_decide_eq_true hb14
    refine WL.evg rfl (Ev.field (q := ⟨gr, 2, none⟩) fa_352_2 rfl rfl) rfl <| WL.evg rfl (Ev.loadBoxCell na_30 rfl (K6.x s1) rfl) rfl <| WL.evg rfl (Ev.eql rfl rfl) rfl ?_
    refine ev (Ev.pick_t rfl rfl) ?_
    exact WL.cend rfl
   | false =>
    refine WL.pass rfl rfl rfl <| WL.pass rfl rfl rfl <| WL.pass rfl rfl rfl <| ev (Ev.pick_f rfl rfl) ?_
    exact WL.cend rfl
  refine dn ?_
  refine WP.cond_end rfl (fun hc18 => ?_) (fun hc18 => ?_)
  ·
   simp at hc18
   obtain ⟨n1, hn1⟩ := get_some (xs := ns) (i := k) (by omega)
   have hn1l := List.length_take (i := k) (l := ns)
   refine He K6 (fun _ K => ((((K.rm s4).rm s2).rm s1).rm s0)) (fun l0 rk lJ wJ => ∃ (Aj1 : Option Addr) (cj1 : Nat), lJ = l0 ∧ Hp w S0 wJ (rBx gf 128 [.slice Aj1 (((casts (ns.take k)) ++ ([((n1 : Nat) : Int)] : List Int)).length) cj1, .slice none 0 0] :: rOwn tInt 3 Aj1 cj1 ((casts (ns.take k)) ++ ([((n1 : Nat) : Int)] : List Int)) :: rBx gr 352 [.slice A_b b.length c_b, .int .i64 (((1 + offL ns k) + 1 + sizeN n1 : Nat) : Int), .int .i64 0] :: rBx g1 128 [.slice none 0 0, .slice none 0 0] :: rk)) (fun hns H4 => ?_) ?_
   ·
    have k1 := ((((H4.rm s4).rm s2).rm s1).rm s0)
    refine Tn 0 1 hns rfl (fun _ _ => Ev.field (q := ⟨gf, 0, none⟩) fa_128_0 rfl rfl) k1 ?_
    refine Jn (H4.rm s1) (fun l0 rk lJ wJ => ∃ (g4 : Nat), lJ = (20, .slice A1 ((casts (ns.take k)).length) c1) :: (22, .slice (some ⟨g4, 0, none⟩) (([((n1 : Nat) : Int)] : List Int).length) 1) :: l0 ∧ Hp w S0 wJ (rOwn tInt 3 (some ⟨g4, 0, none⟩) 1 ([((n1 : Nat) : Int)] : List Int) :: rBx gr 352 [.slice A_b b.length c_b, .int .i64 (((1 + offL ns k) + 1 + sizeN n1 : Nat) : Int), .int .i64 0] :: rk)) 3 15 ?_ fun hS1 => ?_
    ·
     rintro _ w13 ⟨g4, rfl, K13⟩
     refine O1 4 rfl ?_
     refine ap (ys := ([((n1 : Nat) : Int)] : List Int)) K13 s2 rfl rfl (K13.o s0) Tryz.underlying72 ei_3 (by simp only [casts, List.length_map, List.length_take]; omega) (by simp) rfl fun Ap2 cp2 w14 K14 => ?_
     have k8 := (((((K14.rm s5).rm s3).rm s2).rm s1).rm s0)
     refine WH.next k8 <| Tn 5 63 hns rfl (fun _ _ => Ev.field (q := ⟨gf, 0, none⟩) fa_128_0 rfl rfl) k8 <| O1 6 rfl ?_
     refine stc rfl rfl rfl sz_72 K14 s3 rfl fun w15 K15 => ?_
     have k9 := (((((K15.rm s5).rm s3).rm s2).rm s1).rm s0)
     refine WH.next k9 ?_
     exact Dn ⟨Ap2, cp2, rfl, ((((((K15.rm s2).sel s3).sel s4).sel s4).sel s4).sel s4)⟩ rfl
    refine Jn (H4.rm s1) (fun l0 rk lJ wJ => lJ = (20, .slice A1 ((casts (ns.take k)).length) c1) :: (21, .int .i64 ((n1 : Nat) : Int)) :: l0 ∧ Hp w S0 wJ (rBx gr 352 [.slice A_b b.length c_b, .int .i64 (((1 + offL ns k) + 1 + sizeN n1 : Nat) : Int), .int .i64 0] :: rk)) 4 7 ?_ fun hS2 => ?_
    ·
     rintro _ w16 ⟨rfl, K16⟩
     refine O1 3 rfl ?_
     refine bs1 (τ := tInt) (x := ((n1 : Nat) : Int)) rfl (by intro _; apply bs_72_1_I) rfl K16 (fun _ _ => rfl) fun g6 w17 K17 => ?_
     have k10 := (((((K17.rm s5).rm s3).rm s2).rm s1).rm s0)
     exact Kj hS1 k10 ⟨g6, rfl, K17⟩ rfl
    refine O2 1 2 rfl rfl ?_ ?_
    ·
     refine ev (Ev.loadBoxCell na_72 rfl (H4.x s2) rfl) <| WH.next k1 <| O1 2 rfl <| WL.call rfl rfl rfl cl_251 (field_ok (n := n1) (rest := ((ns.drop (k + 1)).flatMap fldL ++ [0#8, 0#8])) ((((H4.sel s2).sel s1).sel s3).sel s3) (by rw [hb]; exact pack_at hn1) (hn56 _ (mem_of_get hn1))) rfl ?_
     rintro _ w18 ⟨rfl, K18⟩
     have k11 := ((((K18.rm s4).rm s3).rm s2).rm s0)
     exact Kj hS2 k11 ⟨rfl, ((((K18.sel s1).sel s3).sel s3).sel s3)⟩ rfl
    ·
     refine WL.call rfl rfl rfl cl_251 (field_ok (n := n1) (rest := ((ns.drop (k + 1)).flatMap fldL ++ [0#8, 0#8])) ((((H4.sel s2).sel s1).sel s3).sel s3) (by rw [hb]; exact pack_at hn1) (hn56 _ (mem_of_get hn1))) rfl ?_
     rintro _ w19 ⟨rfl, K19⟩
     have k12 := ((((K19.rm s4).rm s3).rm s2).rm s0)
     refine WH.next k12 ?_
     refine O2 1 3 rfl rfl ?_ ?_
     ·
      refine ev (Ev.loadBoxCell na_72 rfl (K19.x s3) rfl) ?_
      exact Kj hS2 k12 ⟨rfl, ((((K19.sel s1).sel s3).sel s3).sel s3)⟩ rfl
     ·
      refine bs1 (τ := tInt) (x := ((n1 : Nat) : Int)) rfl (by intro _; apply bs_72_1_I) rfl K19 (fun _ _ => rfl) fun g7 w20 K20 => ?_
      have k13 := (((((K20.rm s5).rm s4).rm s3).rm s1).rm s0)
      refine WH.next k13 <| O1 1 rfl <| ev (Ev.loadBoxCell na_72 rfl (K20.x s4) rfl) ?_
      exact Kj hS1 k13 ⟨g7, rfl, (((((K20.sel s2).sel s4).sel s4).sel s4).sel s4)⟩ rfl
   rintro _ w21 ⟨Aj1, cj1, rfl, K21⟩
   refine rg <| mv rfl <| ev (Ev.subN (a := ns.length - k) (b := 1) rfl rfl rfl (by omega) (by omega)) <| as_ rfl <| dn ?_
   refine WP.goto (Pst.then_goto ?_)
   have hq5 : ((((ns.length - k) - 1 : Nat) : Int) : Int) = ((ns.length - (k + 1) : Nat) : Int) := by omega
   refine Pst.re (t := 7) rfl (congrArg (Value.int .i64) hq5) ?_
   have hq6 : (((casts (ns.take k)) ++ ([((n1 : Nat) : Int)] : List Int)) : List Int) = (casts (ns.take (k + 1))) := by exact casts_snoc hn1
   rw [hq6] at K21
   have hq7 : (.int .i64 (((1 + offL ns k) + 1 + sizeN n1 : Nat) : Int) : Value) = .int .i64 ((1 + offL ns (k + 1) : Nat) : Int) := by rw [offL_succ hn1]; simp [fldL, beB_length]; omega
   try rw [hq7] at K21
   exact Pst.jag ⟨(k + 1), gr, gf, Aj1, cj1, rfl, rfl, by omega, (((((K21.sel s3).sel s4).sel s2).sel s4).sel s4)⟩ rfl (by omega)
  simp at hc18
  refine WP.skip (Pst.norm ?_)
  have hke : k = ns.length := by omega
  rw [← hke] at he1 he2
  refine rg <| WL.call rfl rfl rfl cl_250 (number_ok ((((K6.sel s2).sel s1).sel s3).sel s3) 2 (by omega) (by omega)) rfl ?_
  rintro _ w22 ⟨rfl, K22⟩
  refine WL.re (t := 27) rfl (congrArg (Value.int .i64) (show (((numL ((b.take ((1 + offL ns k) + 2)).drop (1 + offL ns k)) : Nat) : Int) : Int) = ((0 : Nat) : Int) by exact congrArg _ (num_two he1))) ?_
  refine as_ rfl <| dn <| WP.seq <| rg <| ev (Ev.field (q := ⟨gr, 2, none⟩) fa_352_2 rfl rfl) <| ev (Ev.loadBoxCell na_30 rfl (K22.x s0) rfl) <| ev (Ev.eql rfl rfl) ?_
  refine mv rfl <| WL.evg rfl (Ev.move rfl) rfl <| WL.evg rfl (Ev.gtr rfl rfl) rfl <| ev (Ev.pick_t rfl rfl) <| dn ?_
  refine WP.cond_end rfl (fun _h => absurd _h (by decide)) (fun _h => ?_)
  refine WP.skip (Pst.norm ?_)
  refine rg <| mv rfl <| WL.call rfl rfl rfl cl_252 (take_ok K22 0 (by omega)) rfl ?_
  rintro _ w23 ⟨A0_23, c0_23, rfl, K23⟩
  have hL23_0 := (K23.s s0).len_le
  refine WL.call rfl rfl rfl cl_22 (CloneByte_ok _ (K23.s s0).any (by simp only [List.length_drop, List.length_take]; omega)) rfl ?_
  rintro _ w24 ⟨A0_24, c0_24, rfl, h24⟩
  have K24 := K23.f1 h24
  have hL24_0 := (K24.o s0).len_le
  refine ev (Ev.field (q := ⟨gf, 1, none⟩) fa_128_1 rfl rfl) ?_
  refine stc rfl rfl rfl sz_32 K24 s5 rfl fun w25 K25 => ?_
  refine dn <| WP.seq <| rg <| ev (Ev.field (q := ⟨gr, 2, none⟩) fa_352_2 rfl rfl) <| ev (Ev.loadBoxCell na_30 rfl (K25.x s3) rfl) <| ev (Ev.neq rfl rfl) <| dn ?_
  refine WP.cond_end rfl (fun _h => absurd _h (by decide)) (fun _h => ?_)
  refine WP.skip (Pst.norm ?_)
  refine He K25 (fun _ K => (K.rm s6)) (fun l0 rk lJ wJ => lJ = (3, .int .i64 ((((1 + offL ns k) + 2) + 0 : Nat) : Int)) :: (4, .int .i64 0) :: l0 ∧ Hp w S0 wJ (rBx g1 128 [.slice A1 ((casts (ns.take k)).length) c1, .slice A0_24 (((b.take (((1 + offL ns k) + 2) + 0)).drop ((1 + offL ns k) + 2)).length) c0_24] :: rk)) (fun hns H5 => ?_) ?_
  ·
   have k14 := (H5.rm s6)
   refine Tn 0 1 hns rfl (fun _ hK => Ev.loadBox ag_128 rfl rfl (hK.x s0)) k14 <| Tn 1 3 hns rfl (fun _ _ => Ev.field (q := ⟨gr, 1, none⟩) fa_352_1 rfl rfl) k14 ?_
   refine Tn 2 7 hns rfl (fun _ hK => Ev.loadBoxCell na_3 rfl (hK.x s3) rfl) k14 <| O1 3 rfl ?_
   refine stw rfl rfl rfl sz_128 H5 s6 rfl rfl fun w26 K26 => ?_
   have k15 := (K26.rm s0)
   refine WH.next k15 <| Ta 4 31 hns rfl rfl k15 <| Ta 5 63 hns rfl rfl k15 ?_
   exact Dn ⟨rfl, K26⟩ rfl
  rintro _ w27 ⟨rfl, K27⟩
  refine WP.ret (Pst.jump_ret (Pst.retC rfl ⟨_, _, rfl, ⟨_, rfl, loads_box (cs := [.slice A1 ((casts (ns.take k)).length) c1, .slice A0_24 (((b.take (((1 + offL ns k) + 2) + 0)).drop ((1 + offL ns k) + 2)).length) c0_24]) ag_128 rfl (K27.x s0)⟩, ⟨_, _, rfl, rfl, ⟨_, _, rfl, rfl, rfl⟩⟩⟩ ?_))
  have hq8 : ((⟨(casts (ns.take k)), ((b.take (((1 + offL ns k) + 2) + 0)).drop ((1 + offL ns k) + 2))⟩ : AFields) : AFields) = (⟨casts ns, []⟩ : AFields) := by rw [hke, List.take_length]; congr 1; simp [List.drop_take]
  have hq9 : ((casts (ns.take k)) : List Int) = ((⟨casts ns, []⟩ : AFields).N) := by rw [← hq8]
  have hq10 : (((b.take (((1 + offL ns k) + 2) + 0)).drop ((1 + offL ns k) + 2)) : List (BitVec 8)) = ((⟨casts ns, []⟩ : AFields).Data) := by rw [← hq8]
  have hq11 : (((1 + offL ns k) + 2) + 0 : Nat) = b.length := by omega
  exact ⟨A1, c1, A0_24, c0_24, by first | (rw [hq11, hq9, hq10] <;> rfl) | (rw [hq9, hq10, hq11] <;> rfl), by rw [← hq9, ← hq10]; exact (((((((K27.rm s5).rm s4).rm s3).rm s1).rm s0).sel s0).sel s1)⟩
 ·
  intro hp0
  refine rg <| mv rfl <| ev (Ev.build (vs := [(0, .slice A_b b.length c_b)]) (cs := [.slice A_b b.length c_b, .int .i64 0, .int .i64 0]) rfl (by apply bl_352_0S)) ?_
  refine al zero_352 rfl K1 fun g2 w2 K2 => ?_
  refine stw rfl rfl rfl sz_352 K2 s0 rfl rfl fun w3 K3 => ?_
  refine dn <| rg ?_
  refine al zero_128 rfl K3 fun g3 w4 K4 => ?_
  refine dn <| rg ?_
  have H1 := K4.push (K4.a h_b)
  refine WL.call rfl rfl rfl cl_250 (number_ok (((H1.sel s1).sel s1).sel s2) 1 (by omega) (by omega)) rfl ?_
  rintro _ w5 ⟨rfl, K5⟩
  refine WL.re (t := 11) rfl (congrArg (Value.int .i64) (show (((numL ((b.take (0 + 1)).drop 0) : Nat) : Int) : Int) = ((ns.length : Nat) : Int) by exact congrArg _ hp1)) ?_
  refine as_ rfl <| dn ?_
  have H2 := K5.nil tInt 3
  have hq1 : (((ns.length : Nat) : Int) : Int) = ((ns.length - 0 : Nat) : Int) := by omega
  refine WP.re (t := 7) rfl (congrArg (Value.int .i64) hq1) ?_
  have H3 := H2.nil tInt 3
  have hq2 : ([] : List Int) = (casts (ns.take 0)) := by rfl
  rw [hq2] at H3
  have hq3 : (.int .i64 ((0 + 1 : Nat) : Int) : Value) = .int .i64 ((1 + offL ns 0 : Nat) : Int) := by rfl
  try rw [hq3] at H3
  have hq4 : (.slice none 0 0 : Value) = .slice none ((casts (ns.take 0)).length) 0 := by simp
  try rw [hq4] at H3
  exact WP.kp hp0 ⟨0, g2, g3, none, 0, rfl, rfl, by exact Nat.zero_le _, (((((H3.rm s1).sel s2).sel s3).sel s3).sel s3)⟩ rfl

end Go.Proofs.YtlnjmkmhmbijmaaGreat
