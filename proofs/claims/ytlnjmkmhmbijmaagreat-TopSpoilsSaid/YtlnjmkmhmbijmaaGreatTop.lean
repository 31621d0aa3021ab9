/- Contracts of functions: what each call hands back, and that it leaves all that was there as it was. -/
import Derived.Test.YtlnjmkmhmbijmaaGreatAwk
set_option maxRecDepth 4000
set_option linter.all false
namespace Go.Proofs.YtlnjmkmhmbijmaaGreat
open Go.RowKit

theorem save_zero {b : ABallot} {l : ALog} (h : saveE b l = 0) : (∀ r ∈ recsL b l.L, okR r) ∧ stepsR ((⟨0, 0⟩ : ABallot), ([] : List AEntry)) (recsL b l.L) = some (b, l.L) ∧ (bytesL (recsL b l.L)).length ≤ 65536 := by
  unfold saveE at h
  split at h
  · omega
  · rename_i h1
    split at h
    · omega
    · obtain ⟨h2, h3, h4, h5⟩ := save_no (Bool.eq_false_iff.2 h1)
      have h6 := may_len h3
      have h7 := may_base h3 h4
      refine ⟨recs_ok h2 (by omega) h5, steps_recs h2 (by rw [← h7]; exact h3) h5, by omega⟩
theorem steps_pre {s q : ABallot × List AEntry} {rs : List Rec} (h : stepsR s rs = some q) (k : Nat) : ∃ q2, stepsR s (rs.take k) = some q2 := by
  rw [← List.take_append_drop k rs, stepsR_append] at h
  cases h2 : stepsR s (rs.take k) with
  | none => rw [h2] at h; cases h
  | some q2 => exact ⟨q2, rfl⟩
theorem take_from (rs : List Rec) (k : Nat) : (bytesL rs).take (fromL rs k) = bytesL (rs.take k) ++ [] := by
  have e : bytesL rs = bytesL (rs.take k) ++ bytesL (rs.drop k) := by rw [← bytesL_append, List.take_append_drop]
  rw [List.append_nil]
  conv => lhs; rw [e]
  show List.take (bytesL (rs.take k)).length _ = _
  simp
/-- does the k-th record end ahead of the p-th byte? -/
def goL (rs : List Rec) (k p : Nat) : Bool := match rs[k]? with
  | none => false
  | some r => decide (fromL rs k + (packL r.2).length + 8 ≤ p)
theorem go_none {rs : List Rec} {k p : Nat} (h : ¬ ((k : Nat) : Int) < (((rs.map frmOf).length : Nat) : Int)) : false = goL rs k p := by
  unfold goL
  rw [List.getElem?_eq_none (by rw [List.length_map] at h; omega)]
theorem rec_of {rs : List Rec} {k : Nat} {x : AFrame} (h : (rs.map frmOf)[k]? = some x) : ∃ r, rs[k]? = some r ∧ x.Body = packL r.2 := by
  rw [List.getElem?_map] at h
  cases hr : rs[k]? with
  | none => rw [hr] at h; cases h
  | some r => rw [hr] at h; cases h; exact ⟨r, rfl, rfl⟩
theorem go_some {rs : List Rec} {k p : Nat} {x : AFrame} (h : (rs.map frmOf)[k]? = some x) : decide (((fromL rs k + x.Body.length + 8 : Nat) : Int) ≤ ((p : Nat) : Int)) = goL rs k p := by
  obtain ⟨r, hr, hb⟩ := rec_of h
  unfold goL
  rw [hr, hb, decide_eq_decide]; omega
theorem body_le {rs : List Rec} {k : Nat} {x : AFrame} (h : (rs.map frmOf)[k]? = some x) : fromL rs (k + 1) = fromL rs k + x.Body.length + 8 ∧ fromL rs (k + 1) ≤ (bytesL rs).length := by
  obtain ⟨r, hr, hb⟩ := rec_of h
  have h1 := fromL_succ hr
  refine ⟨by rw [h1, hb], ?_⟩
  have e : bytesL rs = bytesL (rs.take (k + 1)) ++ bytesL (rs.drop (k + 1)) := by rw [← bytesL_append, List.take_append_drop]
  rw [e, List.length_append]; show (bytesL (rs.take (k + 1))).length ≤ _; omega
theorem go_yes {rs : List Rec} {k p : Nat} (h : goL rs k p = true) : ∃ r, rs[k]? = some r ∧ fromL rs k + (packL r.2).length + 8 ≤ p := by
  unfold goL at h
  cases hr : rs[k]? with
  | none => rw [hr] at h; cases h
  | some r => rw [hr] at h; exact ⟨r, rfl, of_decide_eq_true h⟩
theorem go_no {rs : List Rec} {k p : Nat} (h : goL rs k p = false) (hk : k ≤ rs.length) (hf : fromL rs k ≤ p) (hp : p < (bytesL rs).length) : ∃ r, rs[k]? = some r ∧ p < fromL rs k + (packL r.2).length + 8 := by
  have hlt : k < rs.length := by
    rcases Nat.lt_or_ge k rs.length with h1 | h1
    · exact h1
    · have : k = rs.length := by omega
      subst this; rw [fromL_all] at hf; omega
  obtain ⟨r, hr⟩ := get_some (xs := rs) (i := k) hlt
  unfold goL at h
  rw [hr] at h
  have := of_decide_eq_false h
  exact ⟨r, hr, by omega⟩
theorem wf_nums {e : AEntry} (h : e.wf) : ∀ z ∈ numsZ 0 e, InI64 z := by
  obtain ⟨h1, h2, h3, h4, h5, h6, h7⟩ := h
  intro z hz
  simp only [numsZ, List.mem_cons, List.not_mem_nil, or_false] at hz
  rcases hz with rfl | rfl | rfl | rfl | rfl | rfl | rfl | rfl
  · unfold InI64; omega
  all_goals assumption

theorem cl_4 : Callable Tryz.prog 4 := fun _ _ => by kernel_rfl
theorem cl_7 : Callable Tryz.prog 7 := fun _ _ => by kernel_rfl
theorem cl_8 : Callable Tryz.prog 8 := fun _ _ => by kernel_rfl
theorem cl_9 : Callable Tryz.prog 9 := fun _ _ => by kernel_rfl
theorem cl_10 : Callable Tryz.prog 10 := fun _ _ => by kernel_rfl
theorem tspoils_true {S0 : Nat → Prop} (w : World) (bl : ABallot) (l : ALog) {B0_l : Option Addr} {d0_l : Nat} (h0_l : Sl tEntry S0 w B0_l d0_l l.L) (bit : Int) (hwf : ∀ e ∈ l.L, e.wf) :
    Rets Tryz.prog 3 #[.agg #[.int .i64 bl.Term, .int .i64 bl.Vote], .agg #[.int .i64 l.Base, .int .i64 l.BaseTerm, .slice B0_l l.L.length d0_l], .int .i64 bit] w fun v w' => v = .bool true ∧ Hp w S0 w' [] := by
 refine WP.enter Tryz.func3 rfl Tryz.ntmps3 rfl ?_
 have H0 := Hp.init w S0
 refine rg ?_
 refine bx rfl rfl H0 fun g1 w1 K1 => ?_
 refine bx rfl rfl K1 fun g2 w2 K2 => ?_
 refine as_ rfl <| dn <| rg ?_
 refine C0 K2 rfl rfl rfl cl_4 (awake_ok (S0 := Any) _ ) fun w3 K3 => ?_
 refine as_ rfl <| dn <| rg <| WL.call rfl rfl rfl cl_5 (VNew_ok K3 ) rfl ?_
 rintro _ w4 ⟨gv_4, rfl, K4⟩
 refine as_ rfl <| dn <| WP.seq <| rg <| mv rfl <| ev (Ev.not rfl) <| mv rfl <| WL.evg rfl (Ev.move rfl) rfl <| WL.evg rfl (Ev.pnil Tryz.underlying28 rfl rfl) rfl ?_
 refine ev (Ev.pick_f rfl rfl) <| mv rfl <| WL.evg rfl (Ev.field (q := ⟨g2, 2, none⟩) fa_26_2 rfl rfl) rfl <| WL.evg rfl (Ev.loadBoxCell na_24 rfl (K4.x s1) rfl) rfl ?_
 refine WL.evg rfl (Ev.len Tryz.underlying24 rfl) rfl <| WL.evg rfl (Ev.gtr rfl rfl) rfl <| ev (Ev.pick_f rfl rfl) <| mv rfl ?_
 refine WL.cutb 3 39 ((decide (70 < ((l.L.length : Nat) : Int))) || (decide (bit < 0))) ?_ ?_
 ·
  cases hb36 : decide (70 < ((l.L.length : Nat) : Int)) with
  | true =>
   refine WL.pass rfl rfl rfl <| WL.pass rfl rfl rfl <| ev (Ev.pick_t rfl rfl) ?_
   exact WL.cend rfl
  | false =>
   have hb36p := of_decide_eq_false hb36
   refine WL.evg rfl (Ev.move rfl) rfl <| WL.evg rfl (Ev.lss rfl rfl) rfl <| ev (Ev.pick_f rfl rfl) ?_
   exact WL.cend rfl
 refine dn ?_
 refine WP.cond_end rfl (fun hc39 => ?_) (fun hc39 => ?_)
 ·
  refine rg <| mv rfl <| mv rfl <| WL.evg rfl (Ev.move rfl) rfl <| WL.evg rfl (Ev.pnn Tryz.underlying28 rfl rfl) rfl <| ev (Ev.pick_t rfl rfl) <| as_ rfl <| dn ?_
  refine WP.ret (Pst.then_ret (Pst.body_ret rfl rfl rfl ?_))
  exact ⟨rfl, K4.z⟩
 simp only [Bool.or_eq_false_iff, decide_eq_false_iff_not] at hc39
 refine WP.re (t := 2) rfl (congrArg (Value.int .i64) (show (bit : Int) = ((bit.toNat : Nat) : Int) by omega)) ?_
 refine WP.skip (Pst.norm ?_)
 refine WP.seq <| rg <| mv rfl <| ev (Ev.loadBox ag_23 rfl rfl (K4.x s2)) <| ev (Ev.loadBox ag_26 rfl rfl (K4.x s1)) ?_
 have H1 := K4.push (K4.a h0_l)
 refine WL.call rfl rfl rfl cl_6 (Save_ok (l := l) ((H1.sel s0).sel s1) bl (fun e he => wf_nums (hwf e he))) rfl ?_
 rintro _ w5 ⟨A1_5, c1_5, A2_5, c2_5, rfl, K5⟩
 have hL5_1 := (K5.o s1).len_le
 have hL5_2 := (K5.o s2).len_le
 refine ev (Ev.neq rfl rfl) <| dn ?_
 refine WP.cond_end rfl (fun hc49 => ?_) (fun hc49 => ?_)
 ·
  replace hc49 := not_dec_t hc49
  refine rg <| as_ rfl <| dn ?_
  refine WP.ret (Pst.then_ret (Pst.body_ret rfl rfl rfl ?_))
  exact ⟨rfl, K5.z⟩
 replace hc49 := not_dec_f hc49
 have hs0 : saveE bl l = 0 := by simpa using hc49
 obtain ⟨hokr, hstr, hlen⟩ := save_zero hs0
 have hrl : (recsL bl l.L).length ≤ 70000 := recs_many rfl (by omega)
 refine WP.skip (Pst.norm ?_)
 have hq1 : (if saveE bl l = 0 then bytesL (recsL bl l.L) else []) = (bytesL (recsL bl l.L)) := if_pos hs0
 rw [hq1] at K5
 refine rg <| mv rfl <| WL.call rfl rfl rfl cl_7 (Bytes_ok K5 (by omega)) rfl ?_
 rintro _ w6 ⟨A0_6, c0_6, rfl, K6⟩
 have hL6_0 := (K6.o s0).len_le
 have hL6_2 := (K6.o s2).len_le
 refine as_ rfl <| dn <| WP.seq <| rg <| mv rfl <| mv rfl <| ev (Ev.len Tryz.underlying32 rfl) <| ev (Ev.mul rfl rfl (I64.mk (by omega) (by omega))) <| ev (Ev.geq rfl rfl) ?_
 refine dn ?_
 refine WP.cond_end rfl (fun hc56 => ?_) (fun hc56 => ?_)
 ·
  replace hc56 := of_decide_eq_true hc56
  refine rg <| as_ rfl <| dn ?_
  refine WP.ret (Pst.then_ret (Pst.body_ret rfl rfl rfl ?_))
  exact ⟨rfl, K6.z⟩
 replace hc56 := of_decide_eq_false hc56
 refine WP.skip (Pst.norm ?_)
 refine rg <| mv rfl <| WL.call rfl rfl rfl cl_8 (Run_ok (S0 := Rd w S0 [rOwn tByte 5 A0_6 c0_6 (bytesL (recsL bl l.L)), rBx gv_4 61 [.slice A1_5 ((bytesL (recsL bl l.L)).length) c1_5, .int .i64 0, .int .i64 (if saveE bl l = 0 then bl.Term else 0), .int .i64 (if saveE bl l = 0 then bl.Vote else 0), .slice A2_5 ((if saveE bl l = 0 then l.L else []).length) c2_5], rOwn tByte 5 A1_5 c1_5 (bytesL (recsL bl l.L)), rOwn tEntry 68 A2_5 c2_5 (if saveE bl l = 0 then l.L else []), rBx g2 26 [.int .i64 l.Base, .int .i64 l.BaseTerm, .slice B0_l l.L.length d0_l], rBx g1 23 [.int .i64 bl.Term, .int .i64 bl.Vote]] w6) _ (K6.o s0) rfl hokr (by omega)) rfl ?_
 rintro _ w7 ⟨A0_7, c0_7, rfl, h7⟩
 have K7 := K6.c1 h7
 have hL7_0 := (K7.o s0).len_le
 refine mv rfl <| xt rfl rfl <| xt rfl rfl <| xt rfl rfl <| as_ rfl <| as_ rfl <| as_ rfl <| dn <| WP.keep' [(2, .int .i64 ((bit.toNat : Nat) : Int)), (9, .slice A0_6 ((bytesL (recsL bl l.L)).length) c0_6), (10, .slice A0_7 (((recsL bl l.L).map frmOf).length) c0_7), (11, .int .i64 (((bytesL (recsL bl l.L)).length : Nat) : Int)), (12, .int .i64 0)] rfl ?_
 refine WP.seq <| rg <| mv rfl <| ev (Ev.neq rfl rfl) <| mv rfl <| WL.evg rfl (Ev.move rfl) rfl <| WL.evg rfl (Ev.move rfl) rfl <| WL.evg rfl (Ev.len Tryz.underlying32 rfl) rfl ?_
 refine WL.evg rfl (Ev.neq rfl rfl) rfl ?_
 have hq2 : ((!decide ((((bytesL (recsL bl l.L)).length : Nat) : Int) = (((bytesL (recsL bl l.L)).length : Nat) : Int))) : Bool) = false := by simp
 refine WL.re (t := 69) rfl (congrArg Value.bool hq2) <| ev (Ev.pick_f rfl rfl) <| dn ?_
 refine WP.cond_end rfl (fun _h => absurd _h (by decide)) (fun _h => ?_)
 refine WP.skip (Pst.norm ?_)
 refine rg <| as_ rfl <| dn <| WP.seq <| rg <| as_ rfl <| dn <| WP.block ?_
 have hq3 : (0 : Int) = ((fromL (recsL bl l.L) 0 : Nat) : Int) := by rfl
 refine WP.re (t := 13) rfl (congrArg (Value.int .i64) hq3) <| Lp K7 (fun l0 rk mJ lJ wJ => ∃ (k : Nat), lJ = (13, .int .i64 ((fromL (recsL bl l.L) k : Nat) : Int)) :: (14, .int .i64 ((k : Nat) : Int)) :: l0 ∧ mJ = (recsL bl l.L).length - k ∧ k ≤ (recsL bl l.L).length ∧ (fromL (recsL bl l.L) k ≤ (bit.toNat / 8)) ∧ Hp w S0 wJ rk) ⟨0, rfl, rfl, Nat.zero_le _, by exact Nat.zero_le _, K7⟩ rfl ?_
 rintro _ _ w8 ⟨k, rfl, rfl, hk, hfr, K8⟩
 refine WP.seq <| rg <| mv rfl <| mv rfl <| ev (Ev.len Tryz.underlying34 rfl) <| ev (Ev.lss rfl rfl) <| mv rfl ?_
 refine WL.cutb 13 88 (goL (recsL bl l.L) k (bit.toNat / 8)) ?_ ?_
 ·
  cases hb75 : decide (((k : Nat) : Int) < ((((recsL bl l.L).map frmOf).length : Nat) : Int)) with
  | true =>
   have hb75p := of_decide_eq_true hb75
   refine WL.evg rfl (Ev.move rfl) rfl <| WL.evg rfl (Ev.move rfl) rfl <| WL.evg rfl (Ev.move rfl) rfl ?_
   obtain ⟨x1, hx1⟩ := get_some (xs := (recsL bl l.L).map frmOf) (i := k) (by omega)
   refine WL.evg rfl (Ev.index (i := k) Tryz.underlying34 sz_38 rfl rfl rfl (lt_of_get hx1) ((K8.o s0).some_ hx1)) rfl <| WL.evg rfl (Ev.field fa_38_1 rfl (add_of_add _ _ _)) rfl ?_
   obtain ⟨B1, d1, hc_1, hi1⟩ := AFrame.op (K8.oi s0 hx1)
   have H2 := K8.push hi1
   refine WL.evg rfl (Ev.loadCell na_32 rfl (hc_1 1 _ rfl)) rfl <| WL.evg rfl (Ev.len Tryz.underlying32 rfl) rfl <| WL.evg rfl (Ev.add rfl rfl (I64.mk (by have := body_le hx1; omega) (by have := body_le hx1; omega))) rfl ?_
   refine WL.evg rfl (Ev.add rfl rfl (I64.mk (by have := body_le hx1; omega) (by have := body_le hx1; omega))) rfl <| WL.evg rfl (Ev.move rfl) rfl <| WL.evg rfl (Ev.quoN (a := bit.toNat) (c := 8) rfl rfl rfl (by omega) (by omega)) rfl ?_
   refine WL.evg rfl (Ev.leq rfl rfl) rfl <| ev (Ev.pick_t rfl rfl) <| WL.re (t := 88) (u := .bool (decide (((fromL (recsL bl l.L) k + x1.Body.length + 8 : Nat) : Int) ≤ ((bit.toNat / 8 : Nat) : Int)))) (v := .bool (goL (recsL bl l.L) k (bit.toNat / 8))) rfl (congrArg Value.bool (by exact go_some hx1)) ?_
   exact WL.cend rfl
  | false =>
   refine WL.pass rfl rfl rfl <| WL.pass rfl rfl rfl <| WL.pass rfl rfl rfl <| WL.pass rfl rfl rfl <| WL.pass rfl rfl rfl <| WL.pass rfl rfl rfl <| WL.pass rfl rfl rfl ?_
   refine WL.pass rfl rfl rfl <| WL.pass rfl rfl rfl <| WL.pass rfl rfl rfl <| WL.pass rfl rfl rfl <| WL.pass rfl rfl rfl <| ev (Ev.pick_f rfl rfl) <| WL.re (t := 88) (u := .bool false) (v := .bool (goL (recsL bl l.L) k (bit.toNat / 8))) rfl (congrArg Value.bool (by exact go_none (of_decide_eq_false hb75))) ?_
   exact WL.cend rfl
 refine dn ?_
 refine WP.cond_end rfl (fun hc88 => ?_) (fun hc88 => ?_)
 ·
  refine WP.skip (Pst.norm ?_)
  refine WP.seq <| WP.block ?_
  obtain ⟨r, hr, hrp⟩ := go_yes hc88
  have hfs := fromL_succ hr
  have hkl := lt_of_get hr
  have hkl2 : k < ((recsL bl l.L).map frmOf).length := by rw [List.length_map]; exact hkl
  refine rge <| mv rfl <| mv rfl <| mv rfl ?_
  obtain ⟨x2, hx2⟩ := get_some (xs := (recsL bl l.L).map frmOf) (i := k) (by omega)
  refine ev (Ev.index (i := k) Tryz.underlying34 sz_38 rfl rfl rfl (lt_of_get hx2) ((K8.o s0).some_ hx2)) <| ev (Ev.field fa_38_1 rfl (add_of_add _ _ _)) ?_
  obtain ⟨B2, d2, hc_2, hi2⟩ := AFrame.op (K8.oi s0 hx2)
  have H3 := K8.push hi2
  refine ev (Ev.loadCell na_32 rfl (hc_2 1 _ rfl)) <| ev (Ev.len Tryz.underlying32 rfl) <| ev (Ev.add rfl rfl (I64.mk (by have := body_le hx2; omega) (by have := body_le hx2; omega))) ?_
  refine ev (Ev.add rfl rfl (I64.mk (by have := body_le hx2; omega) (by have := body_le hx2; omega))) <| as_ rfl <| dne ?_
  refine Pst.blk_norm (Pst.norm ?_)
  refine rge <| mv rfl <| ev (Ev.add rfl rfl (I64.mk (by omega) (by omega))) <| as_ rfl <| dne ?_
  have hq4 : (((fromL (recsL bl l.L) k + x2.Body.length + 8 : Nat) : Int) : Int) = ((fromL (recsL bl l.L) (k + 1) : Nat) : Int) := by have := body_le hx2; omega
  refine Pst.re (t := 13) rfl (congrArg (Value.int .i64) hq4) ?_
  exact Pst.ag ⟨(k + 1), rfl, rfl, by omega, by omega, (H3.rm s0)⟩ rfl (by omega)
 refine WP.exit (Pst.then_exit (Pst.then_exit (Pst.blk_eq (Pst.norm ?_))))
 refine WP.seq ?_
 obtain ⟨r, hr, hrp⟩ := go_no hc88 hk hfr (by omega)
 refine rg <| mv rfl <| ev (Ev.quoN (a := bit.toNat) (c := 8) rfl rfl rfl (by omega) (by omega)) <| mv rfl <| ev (Ev.subN (a := bit.toNat / 8) (b := fromL (recsL bl l.L) k) rfl rfl rfl (by omega) (by omega)) ?_
 refine ev (Ev.eql rfl rfl) <| mv rfl ?_
 refine WL.cutb 6 111 ((decide ((((bit.toNat / 8) - (fromL (recsL bl l.L) k) : Nat) : Int) = 2)) || (decide ((((bit.toNat / 8) - (fromL (recsL bl l.L) k) : Nat) : Int) = 3))) ?_ ?_
 ·
  cases hb105 : decide ((((bit.toNat / 8) - (fromL (recsL bl l.L) k) : Nat) : Int) = 2) with
  | true =>
   refine WL.pass rfl rfl rfl <| WL.pass rfl rfl rfl <| WL.pass rfl rfl rfl <| WL.pass rfl rfl rfl <| WL.pass rfl rfl rfl <| ev (Ev.pick_t rfl rfl) ?_
   exact WL.cend rfl
  | false =>
   have hb105p := of_decide_eq_false hb105
   refine WL.evg rfl (Ev.move rfl) rfl <| WL.evg rfl (Ev.quoN (a := bit.toNat) (c := 8) rfl rfl rfl (by omega) (by omega)) rfl <| WL.evg rfl (Ev.move rfl) rfl <| WL.evg rfl (Ev.subN (a := bit.toNat / 8) (b := fromL (recsL bl l.L) k) rfl rfl rfl (by omega) (by omega)) rfl ?_
   refine WL.evg rfl (Ev.eql rfl rfl) rfl <| ev (Ev.pick_f rfl rfl) ?_
   exact WL.cend rfl
 refine dn ?_
 refine WP.cond_end rfl (fun hc111 => ?_) (fun hc111 => ?_)
 ·
  refine rg <| as_ rfl <| dn ?_
  refine WP.ret (Pst.then_ret (Pst.body_ret rfl rfl rfl ?_))
  exact ⟨rfl, K8.z⟩
 simp only [Bool.or_eq_false_iff, decide_eq_false_iff_not] at hc111
 refine WP.skip (Pst.norm ?_)
 obtain ⟨qk, hqk⟩ := steps_pre hstr k
 refine rg <| mv rfl <| mv rfl <| ev (Ev.cutTo (hi := fromL (recsL bl l.L) k) (xs := (bytesL (recsL bl l.L))) Tryz.underlying32 sz_5 rfl rfl rfl (by omega) (K8.o s1).cap) ?_
 refine WL.call rfl rfl rfl cl_9 (Read_ok _ ((K8.o s1).cutTo (hi := fromL (recsL bl l.L) k) (by omega)) (take_from _ _) (fun r h => hokr r (List.mem_of_mem_take h)) hqk (.inl rfl) (by rw [List.length_take]; omega)) rfl ?_
 rintro _ w9 ⟨B1_0_9, d1_0_9, rfl, h9⟩
 have K9 := K8.f1 h9
 have hL9_0 := (K9.o s0).len_le
 refine mv rfl <| xt rfl rfl <| xt rfl rfl <| xt rfl rfl ?_
 refine al zero_23 rfl K9 fun g3 w10 K10 => ?_
 refine al zero_26 rfl K10 fun g4 w11 K11 => ?_
 refine stw rfl rfl rfl sz_23 K11 s1 rfl rfl fun w12 K12 => ?_
 refine stw rfl rfl rfl sz_26 K12 s1 rfl rfl fun w13 K13 => ?_
 refine as_ rfl <| dn ?_
 obtain ⟨x3, hx3⟩ := get_some (xs := (bytesL (recsL bl l.L))) (i := bit.toNat / 8) (by omega)
 refine rg <| mv rfl <| mv rfl <| ev (Ev.quoN (a := bit.toNat) (c := 8) rfl rfl rfl (by omega) (by omega)) <| mv rfl <| mv rfl <| ev (Ev.quoN (a := bit.toNat) (c := 8) rfl rfl rfl (by omega) (by omega)) ?_
 refine ev (Ev.index (i := bit.toNat / 8) Tryz.underlying32 sz_5 rfl rfl rfl (lt_of_get hx3) ((K13.o s4).some_ hx3)) <| ev (Ev.loadCell na_5 rfl ((K13.o s4).flat_cell (j := 0) hx3 rfl)) ?_
 refine mv rfl <| ev (Ev.remN (a := bit.toNat) (c := 8) rfl rfl rfl (by omega) (by omega)) <| ev (Ev.convNat (m := bit.toNat % 8) cv_3_41.1 cv_3_41.2.1 cv_3_41.2.2 rfl (wrap_nat_u64 (by omega))) ?_
 refine ev (Ev.shl8 (a := 1#8) (c := bit.toNat % 8) rfl rfl (by omega)) <| ev (Ev.xor8 (a := x3) (b := (1#8 <<< (bit.toNat % 8))) rfl rfl) <| ev (Ev.index (i := bit.toNat / 8) Tryz.underlying32 sz_5 rfl rfl rfl (lt_of_get hx3) ((K13.o s4).some_ hx3)) ?_
 refine se (i := bit.toNat / 8) (f := 0) (x := x3) (x' := (x3 ^^^ (1#8 <<< (bit.toNat % 8)))) (ds := [.int .u8 (((x3 ^^^ (1#8 <<< (bit.toNat % 8)))).toNat : Int)]) K13 s4 rfl rfl rfl hx3 rfl sz_5 (Nat.le_of_ble_eq_true rfl) rfl (fun _ _ _ h => by have h' : _ = _ := h; subst h'; rfl) fun w14 K14 => ?_
 have hl1 : ((bytesL (recsL bl l.L)).set (bit.toNat / 8) (x3 ^^^ (1#8 <<< (bit.toNat % 8)))).length = (bytesL (recsL bl l.L)).length := List.length_set ..
 refine WL.re (t := 9) (u := .slice A0_6 ((bytesL (recsL bl l.L)).length) c0_6) (v := .slice A0_6 (((bytesL (recsL bl l.L)).set (bit.toNat / 8) (x3 ^^^ (1#8 <<< (bit.toNat % 8)))).length) c0_6) rfl (by rw [hl1]) ?_
 refine WL.re (t := 67) (u := .slice A0_6 ((bytesL (recsL bl l.L)).length) c0_6) (v := .slice A0_6 (((bytesL (recsL bl l.L)).set (bit.toNat / 8) (x3 ^^^ (1#8 <<< (bit.toNat % 8)))).length) c0_6) rfl (by rw [hl1]) ?_
 refine WL.re (t := 113) (u := .slice A0_6 ((bytesL (recsL bl l.L)).length) c0_6) (v := .slice A0_6 (((bytesL (recsL bl l.L)).set (bit.toNat / 8) (x3 ^^^ (1#8 <<< (bit.toNat % 8)))).length) c0_6) rfl (by rw [hl1]) ?_
 refine WL.re (t := 120) (u := .slice A0_6 ((bytesL (recsL bl l.L)).length) c0_6) (v := .slice A0_6 (((bytesL (recsL bl l.L)).set (bit.toNat / 8) (x3 ^^^ (1#8 <<< (bit.toNat % 8)))).length) c0_6) rfl (by rw [hl1]) ?_
 refine WL.re (t := 123) (u := .slice A0_6 ((bytesL (recsL bl l.L)).length) c0_6) (v := .slice A0_6 (((bytesL (recsL bl l.L)).set (bit.toNat / 8) (x3 ^^^ (1#8 <<< (bit.toNat % 8)))).length) c0_6) rfl (by rw [hl1]) ?_
 have hx4 : ((bytesL (recsL bl l.L)).set (bit.toNat / 8) (x3 ^^^ (1#8 <<< (bit.toNat % 8))))[bit.toNat / 8]? = some (x3 ^^^ (1#8 <<< (bit.toNat % 8))) := List.getElem?_set_self (lt_of_get hx3)
 refine dn <| WP.keep' [(9, .slice A0_6 (((bytesL (recsL bl l.L)).set (bit.toNat / 8) (x3 ^^^ (1#8 <<< (bit.toNat % 8)))).length) c0_6), (13, .int .i64 ((fromL (recsL bl l.L) k : Nat) : Int)), (15, .pointer (some ⟨g3, 0, none⟩)), (16, .pointer (some ⟨g4, 0, none⟩)), (17, .int .i64 (((bytesL (((recsL bl l.L).take k))).length : Nat) : Int))] rfl ?_
 refine rg <| mv rfl <| WL.call rfl rfl rfl cl_9 (Read_ok _ (K14.o s0) (spoilt hr (by omega) (by omega)) (fun r h => hokr r (List.mem_of_mem_take h)) hqk (.inr (spoilt_bad hr (hokr r (mem_of_get hr)) (by omega) (by omega) (by omega) (by omega) hx3 (one_shl_ne (by omega)))) (by rw [List.length_set]; omega)) rfl ?_
 rintro _ w15 ⟨B1_0_15, d1_0_15, rfl, h15⟩
 have K15 := K14.f1 h15
 have hL15_0 := (K15.o s0).len_le
 refine mv rfl <| xt rfl rfl <| xt rfl rfl <| xt rfl rfl ?_
 refine al zero_23 rfl K15 fun g5 w16 K16 => ?_
 refine al zero_26 rfl K16 fun g6 w17 K17 => ?_
 refine stw rfl rfl rfl sz_23 K17 s1 rfl rfl fun w18 K18 => ?_
 refine stw rfl rfl rfl sz_26 K18 s1 rfl rfl fun w19 K19 => ?_
 refine as_ rfl <| dn <| rg <| ev (Ev.loadBox ag_26 rfl rfl (K19.x s4)) <| ev (Ev.loadBox ag_26 rfl rfl (K19.x s0)) ?_
 refine C0 K19 rfl rfl rfl cl_10 (Logs_ok _ (⟨0, 0, qk.2⟩ : ALog) (K19.o s6) (⟨0, 0, qk.2⟩ : ALog) (K19.o s2)) fun w20 K20 => ?_
 have hq5 : (((decide ((⟨0, 0, qk.2⟩ : ALog).L = (⟨0, 0, qk.2⟩ : ALog).L) && decide ((⟨0, 0, qk.2⟩ : ALog).Base = (⟨0, 0, qk.2⟩ : ALog).Base)) && decide ((⟨0, 0, qk.2⟩ : ALog).BaseTerm = (⟨0, 0, qk.2⟩ : ALog).BaseTerm)) : Bool) = true := by simp
 refine WL.re (t := 142) rfl (congrArg Value.bool hq5) <| as_ rfl <| dn <| rg <| mv rfl <| mv rfl <| WL.evg rfl (Ev.loadBox ag_23 rfl rfl (K20.x s5)) rfl <| WL.evg rfl (Ev.loadBox ag_23 rfl rfl (K20.x s1)) rfl ?_
 refine WL.evg rfl (Ev.eqS rfl rfl (eqv_23 qk.1 qk.1) eqg_23) rfl ?_
 have hq6 : (decide (qk.1 = qk.1) : Bool) = true := by simp
 refine WL.re (t := 147) rfl (congrArg Value.bool hq6) <| ev (Ev.pick_t rfl rfl) <| mv rfl <| WL.evg rfl (Ev.move rfl) rfl <| WL.evg rfl (Ev.move rfl) rfl <| WL.evg rfl (Ev.eql rfl rfl) rfl ?_
 have hq7 : (decide ((((bytesL (((recsL bl l.L).take k))).length : Nat) : Int) = (((bytesL (((recsL bl l.L).take k))).length : Nat) : Int)) : Bool) = true := by simp
 refine WL.re (t := 152) rfl (congrArg Value.bool hq7) <| ev (Ev.pick_t rfl rfl) <| mv rfl <| WL.evg rfl (Ev.move rfl) rfl <| WL.evg rfl (Ev.move rfl) rfl <| WL.evg rfl (Ev.eql rfl rfl) rfl ?_
 have hq8 : (decide ((((bytesL (((recsL bl l.L).take k))).length : Nat) : Int) = ((fromL (recsL bl l.L) k : Nat) : Int)) : Bool) = true := by first | rfl | (simp; done) | (simp [fromL])
 refine WL.re (t := 157) rfl (congrArg Value.bool hq8) <| ev (Ev.pick_t rfl rfl) <| as_ rfl <| dn ?_
 refine WP.ret (Pst.body_ret rfl rfl rfl ?_)
 exact ⟨rfl, K20.z⟩

end Go.Proofs.YtlnjmkmhmbijmaaGreat
