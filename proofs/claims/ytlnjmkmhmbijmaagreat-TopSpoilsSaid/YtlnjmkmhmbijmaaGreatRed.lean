/- Contracts of functions: what each call hands back, and that it leaves all that was there as it was. -/
import Derived.Test.YtlnjmkmhmbijmaaGreatStp
set_option maxRecDepth 4000
set_option linter.all false
namespace Go.Proofs.YtlnjmkmhmbijmaaGreat
open Go.RowKit

theorem same_snoc {α : Type} {a b : List α} {k : Nat} {x y : α} (h : a.take k = b.take k) (hx : a[k]? = some x) (hy : b[k]? = some y) (e : x = y) : a.take (k + 1) = b.take (k + 1) := by
  rw [take_snoc hx, take_snoc hy, h, e]
theorem steps_next {s s' q : ABallot × List AEntry} {rs : List Rec} {j : Nat} {r : Rec} (h : stepsR s rs = some q) (hj : stepsR s (rs.take j) = some s') (hr : rs[j]? = some r) : ∃ q2, stepR s' r = some q2 ∧ stepsR s (rs.take (j + 1)) = some q2 := by
  obtain ⟨hl, he⟩ := List.getElem?_eq_some_iff.1 hr
  have e : rs = rs.take j ++ (r :: rs.drop (j + 1)) := by rw [← he, ← List.drop_eq_getElem_cons hl, List.take_append_drop]
  rw [e, stepsR_append, hj] at h
  have h2 : stepsR s' (r :: rs.drop (j + 1)) = some q := h
  unfold stepsR at h2
  cases h3 : stepR s' r with
  | none => rw [h3] at h2; cases h2
  | some q2 =>
    refine ⟨q2, rfl, ?_⟩
    rw [take_snoc hr, stepsR_append, hj]
    show stepsR s' [r] = _
    unfold stepsR
    rw [h3]; rfl
theorem drop_from {rs : List Rec} {tail : List (BitVec 8)} (j : Nat) : (bytesL rs ++ tail).drop (fromL rs j) = bytesL (rs.drop j) ++ tail := by
  have e : bytesL rs = bytesL (rs.take j) ++ bytesL (rs.drop j) := by rw [← bytesL_append, List.take_append_drop]
  rw [e, List.append_assoc]
  show List.drop (bytesL (rs.take j)).length _ = _
  simp
theorem get_at {rs : List Rec} {tail : List (BitVec 8)} {j : Nat} {r : Rec} (hr : rs[j]? = some r) (hok : okR r) : getF ((bytesL rs ++ tail).drop (fromL rs j)) = ((r.1, packL r.2), (packL r.2).length + 8, 0) := by
  obtain ⟨hl, he⟩ := List.getElem?_eq_some_iff.1 hr
  rw [drop_from, List.drop_eq_getElem_cons hl, he, bytesL_cons, List.append_assoc]
  have h1 := packL_len hok.2.2
  have h2 := hok.2.1
  have h3 := hok.1
  exact getF_frame (by omega) (by omega)
theorem from_lt {rs : List Rec} {j : Nat} {r : Rec} (hr : rs[j]? = some r) : fromL rs j + 8 ≤ (bytesL rs).length := by
  have h1 := fromL_succ hr
  have h2 : fromL rs (j + 1) ≤ (bytesL rs).length := by
    have e : bytesL rs = bytesL (rs.take (j + 1)) ++ bytesL (rs.drop (j + 1)) := by rw [← bytesL_append, List.take_append_drop]
    rw [e, List.length_append]; show (bytesL (rs.take (j + 1))).length ≤ _; omega
  omega
/-- where reading ends -/
theorem read_end {rs : List Rec} {tail : List (BitVec 8)} {j : Nat} (hj : j ≤ rs.length) (hok : ∀ r ∈ rs, okR r) (h : (getF ((bytesL rs ++ tail).drop (fromL rs j))).2.2 ≠ 0 ∨ (bytesL rs ++ tail).length ≤ fromL rs j) : j = rs.length := by
  rcases Nat.lt_or_ge j rs.length with hlt | hge
  · obtain ⟨r, hr⟩ := get_some (xs := rs) (i := j) hlt
    rcases h with h | h
    · rw [get_at hr (hok r (mem_of_get hr))] at h; exact absurd rfl h
    · have := from_lt hr
      rw [List.length_append] at h; omega
  · omega
theorem read_more {rs : List Rec} {tail : List (BitVec 8)} {j : Nat} (hj : j ≤ rs.length) (ht : tail = [] ∨ (getF tail).2.2 ≠ 0) (h : (getF ((bytesL rs ++ tail).drop (fromL rs j))).2.2 = 0) (h2 : fromL rs j < (bytesL rs ++ tail).length) : j < rs.length := by
  rcases Nat.lt_or_ge j rs.length with hlt | hge
  · exact hlt
  · have he : j = rs.length := by omega
    subst he
    rw [drop_from, List.drop_length] at h
    rcases ht with rfl | ht
    · rw [List.append_nil, fromL_all] at h2; omega
    · exact absurd h ht
theorem recs_many {rs : List Rec} {b : List (BitVec 8)} (hb : b = bytesL rs) (hn : b.length ≤ 70000) : rs.length ≤ 70000 := by
  subst hb
  refine Nat.le_trans ?_ hn
  induction rs with
  | nil => simp
  | cons r rs ih =>
    rw [bytesL_cons, List.length_append] at hn ⊢
    have := ih (by omega)
    have h2 := recB_len r
    rw [List.length_cons]; omega
def frmOf (r : Rec) : AFrame := ⟨(r.1 : Int), packL r.2⟩

theorem zero_59 : ∀ w, (zeroValue 59).run Tryz.prog w = .ok (.agg #[.int .i64 0, .int .i64 0, .slice none 0 0]) w := fun _ => by kernel_rfl
theorem cl_26 : Callable Tryz.prog 26 := fun _ _ => by kernel_rfl
theorem ag_59 : Agg Tryz.prog 59 3 := ⟨fun _ => by kernel_rfl, sz_59⟩
theorem cl_67 : Callable Tryz.prog 67 := fun _ _ => by kernel_rfl
theorem zero_26 : ∀ w, (zeroValue 26).run Tryz.prog w = .ok (.agg #[.int .i64 0, .int .i64 0, .slice none 0 0]) w := fun _ => by kernel_rfl
theorem cl_27 : Callable Tryz.prog 27 := fun _ _ => by kernel_rfl
theorem bs_34_1_IO (a0 : Int) (a1 : Option Addr) (a1n a1c : Nat) : ∀ w, (Instr.buildSlice 34 1 (List.toArray [(0, .agg #[.int .i64 a0, .slice a1 a1n a1c])])).run Tryz.prog w = .ok (.slice (some ⟨w.heap.size, 0, none⟩) 1 1) (w.alloc (.cells (List.toArray [.int .i64 a0, .slice a1 a1n a1c]) 38)) := fun _ => by kernel_rfl
theorem ei_38 : ElemInfo Tryz.prog 38 2 32 := by
  obtain ⟨i, h1, h2, h3, h4⟩ := info_parts (show (Tryz.prog.info? 38).map (fun i => (i.zero, i.size, i.bytes)) = some (some (.agg #[.int .i64 0, .slice none 0 0]), 2, 32) by kernel_rfl)
  exact ⟨i, _, h1, h2, h3, h4, rfl⟩
theorem eqg_68 : Tryz.prog.eqGuardType Tryz.prog.depth 68 = false := by kernel_rfl
theorem eqv_68 (x y : AEntry) (w : World) : (Op.equalIn 10000 68 (.agg x.enc.toArray) (.agg y.enc.toArray)).run Tryz.prog w = .ok (decide (x = y)) w := by
  obtain ⟨a0, a1, a2, a3, a4, a5, a6⟩ := x; obtain ⟨b0, b1, b2, b3, b4, b5, b6⟩ := y
  simp only [AEntry.enc, AEntry.mk.injEq]
  simp [go_sem]
  repeat' split
  all_goals simp_all
theorem cl_28 : Callable Tryz.prog 28 := fun _ _ => by kernel_rfl
theorem read_ok {S0 : Nat → Prop} (w : World) {A_b : Option Addr} {c_b : Nat} {b : List (BitVec 8)} (h_b : Sl tByte S0 w A_b c_b b) {rs : List Rec} {tail : List (BitVec 8)} {q : ABallot × List AEntry} (hb : b = bytesL rs ++ tail) (hok : ∀ r ∈ rs, okR r) (hst : stepsR ((⟨0, 0⟩ : ABallot), ([] : List AEntry)) rs = some q) (ht : tail = [] ∨ (getF tail).2.2 ≠ 0) (hn : b.length ≤ 70000) :
    Rets Tryz.prog 27 #[.slice A_b b.length c_b] w fun v w' => ∃ (B0_0 : Option Addr) (d0_0 : Nat), v = .tuple #[.agg #[.int .i64 ((⟨q.1, q.2⟩ : AState).b.Term), .int .i64 ((⟨q.1, q.2⟩ : AState).b.Vote), .slice B0_0 (((⟨q.1, q.2⟩ : AState).l).length) d0_0], .int .i64 (((bytesL rs).length : Nat) : Int)] ∧ Hp w S0 w' [rOwn tEntry 68 B0_0 d0_0 ((⟨q.1, q.2⟩ : AState).l)] := by
 refine WP.enter Tryz.func27 rfl Tryz.ntmps27 rfl ?_
 have H0 := Hp.init w S0
 have hb_b := h_b.len_le
 refine rg ?_
 refine al zero_59 rfl H0 fun g1 w1 K1 => ?_
 refine as_ rfl <| dn <| WP.sc <| rg ?_
 refine al zero_59 rfl K1 fun g2 w2 K2 => ?_
 refine dn <| rg <| as_ rfl <| dn ?_
 refine WP.seq (WP.lab (Pst.norm ?_))
 refine WP.seq <| WP.block ?_
 have H1 := K2.nil tEntry 68
 have hq1 : (0 : Int) = ((fromL rs 0 : Nat) : Int) := by rfl
 refine WP.re (t := 5) rfl (congrArg (Value.int .i64) hq1) ?_
 have H2 := H1.nil tEntry 68
 have hq2 : ([] : List AEntry) = ((⟨0, 0⟩ : ABallot), ([] : List AEntry)).2 := by rfl
 rw [hq2] at H2
 have hq3 : (.int .i64 0 : Value) = .int .i64 (((⟨0, 0⟩ : ABallot), ([] : List AEntry)).1.Term) := by rfl
 try rw [hq3] at H2
 have hq4 : (.int .i64 0 : Value) = .int .i64 (((⟨0, 0⟩ : ABallot), ([] : List AEntry)).1.Vote) := by rfl
 try rw [hq4] at H2
 have hq5 : (.slice none 0 0 : Value) = .slice none ((((⟨0, 0⟩ : ABallot), ([] : List AEntry)).2).length) 0 := by rfl
 try rw [hq5] at H2
 refine Lp (((H2.rm s2).rm s1).rm s0) (fun l0 rk mJ lJ wJ => ∃ (j : Nat) (sj : ABallot × List AEntry) (A1 : Option Addr) (c1 : Nat), lJ = (5, .int .i64 ((fromL rs j : Nat) : Int)) :: l0 ∧ mJ = rs.length - j ∧ (j ≤ rs.length) ∧ (stepsR ((⟨0, 0⟩ : ABallot), ([] : List AEntry)) (rs.take j) = some sj) ∧ Hp w S0 wJ (rOwn tEntry 68 A1 c1 sj.2 :: rBx g2 59 [.int .i64 sj.1.Term, .int .i64 sj.1.Vote, .slice A1 sj.2.length c1] :: rk)) ⟨0, ((⟨0, 0⟩ : ABallot), ([] : List AEntry)), none, 0, rfl, rfl, by exact Nat.zero_le _, by rfl, (H2.rm s1)⟩ rfl ?_
 rintro _ _ w3 ⟨j, sj, A1, c1, rfl, rfl, hj, hsj, K3⟩
 refine WP.seq <| rg <| mv rfl <| mv rfl <| ev (Ev.len Tryz.underlying32 rfl) <| ev (Ev.lss rfl rfl) <| dn ?_
 refine WP.cond_end rfl (fun hc12 => ?_) (fun hc12 => ?_)
 ·
  replace hc12 := of_decide_eq_true hc12
  refine WP.skip (Pst.norm ?_)
  refine WP.block <| rg <| mv rfl <| mv rfl <| ev (Ev.cutFrom (lo := fromL rs j) (xs := b) Tryz.underlying32 sz_5 rfl rfl rfl (by omega) (K3.a h_b).cap) <| WL.call rfl rfl rfl cl_26 (Get_ok _ ((K3.a h_b).cutFrom (lo := fromL rs j) (by omega)).any (by rw [List.length_drop]; omega)) rfl ?_
  rintro _ w4 ⟨B0_0_4, d0_0_4, rfl, h4⟩
  have K4 := K3.f1 h4
  have hL4_0 := (K4.o s0).len_le
  refine mv rfl <| xt rfl rfl <| xt rfl rfl <| xt rfl rfl ?_
  refine al zero_38 rfl K4 fun g3 w5 K5 => ?_
  refine stw rfl rfl rfl sz_38 K5 s0 rfl rfl fun w6 K6 => ?_
  refine as_ rfl <| as_ rfl <| dn <| WP.seq <| WP.block <| WP.seq <| rg <| mv rfl <| ev (Ev.neq rfl rfl) <| as_ rfl <| dn ?_
  refine WP.cond_end rfl (fun hc21 => ?_) (fun hc21 => ?_)
  ·
   replace hc21 := not_dec_t hc21
   refine WP.re (t := 21) rfl (congrArg Value.bool (show (!decide ((getF (b.drop (fromL rs j))).2.2 = 0)) = true by simpa using hc21)) ?_
   refine WP.skip (Pst.norm ?_)
   refine WP.cond_end rfl (fun _h => ?_) (fun _h => absurd _h (by decide))
   refine WP.exit (Pst.blk_ne rfl (Pst.then_exit (Pst.blk_ne rfl (Pst.then_exit (Pst.blk_eq (Pst.norm ?_))))))
   refine rg <| ev (Ev.loadBox ag_59 rfl rfl (K6.x s3)) <| mv rfl ?_
   refine stw rfl rfl rfl sz_59 K6 s4 rfl rfl fun w7 K7 => ?_
   refine as_ rfl <| dn ?_
   refine WP.ret (Pst.sc_ret (Pst.retC rfl ⟨_, _, rfl, ⟨_, rfl, loads_box (cs := [.int .i64 sj.1.Term, .int .i64 sj.1.Vote, .slice A1 sj.2.length c1]) ag_59 rfl (K7.x s0)⟩, ⟨_, _, rfl, rfl, rfl⟩⟩ ?_))
   have hje : j = rs.length := read_end (tail := tail) hj hok (by rw [← hb]; exact .inl hc21)
   have hsq : sj = q := by have h9 := hsj; rw [hje, List.take_length, hst] at h9; exact (Option.some.inj h9).symm
   have hq6 : ((⟨⟨sj.1.Term, sj.1.Vote⟩, sj.2⟩ : AState) : AState) = (⟨q.1, q.2⟩ : AState) := by rw [hsq]
   have hq7 : (sj.1.Term : Int) = (⟨q.1, q.2⟩ : AState).b.Term := by rw [← hq6]
   have hq8 : (sj.1.Vote : Int) = (⟨q.1, q.2⟩ : AState).b.Vote := by rw [← hq6]
   have hq9 : (sj.2 : List AEntry) = ((⟨q.1, q.2⟩ : AState).l) := by rw [← hq6]
   have hq10 : (fromL rs j : Nat) = ((bytesL rs).length) := by rw [hje, fromL_all]
   exact ⟨A1, c1, by first | (rw [hq7, hq8, hq10, hq9] <;> rfl) | (rw [hq9, hq7, hq8, hq10] <;> rfl), by rw [← hq9]; exact ((((K7.rm s4).rm s2).rm s1).rm s0)⟩
  replace hc21 := not_dec_f hc21
  have hjl := read_more (tail := tail) hj ht (by rw [← hb]; simpa using hc21) (by rw [← hb]; omega)
  obtain ⟨r, hr⟩ := get_some (xs := rs) (i := j) hjl
  obtain ⟨q2, hq2, hq3⟩ := steps_next hst hsj hr
  have hg := get_at (tail := tail) hr (hok r (mem_of_get hr))
  rw [← hb] at hg
  have hfl := from_lt hr
  have hg2 : (getF (b.drop (fromL rs j))).2.1 = (packL r.2).length + 8 := by rw [hg]
  have hfs := fromL_succ hr
  have hpl := packL_len (hok r (mem_of_get hr)).2.2
  have hp8 := (hok r (mem_of_get hr)).2.1
  refine rge <| ev (Ev.loadBox ag_38 rfl rfl (K6.x s0)) ?_
  have H3 := K6.fz s1
  refine WL.call rfl rfl rfl cl_67 (step_ok (r := r) (q2 := q2) ((((H3.sel s1).sel s1).sel s2).sel s3) (by rw [hg]) (by rw [hg]) (hok r (mem_of_get hr)) hq2) rfl ?_
  rintro _ w8 ⟨A1_8, c1_8, rfl, K8⟩
  have hL8_1 := (K8.o s1).len_le
  refine ev (Ev.not rfl) <| as_ rfl <| dne <| Pst.norm ?_
  refine WP.cond_end rfl (fun _h => absurd _h (by decide)) (fun _h => ?_)
  refine WP.skip (Pst.blk_norm (Pst.norm ?_))
  refine rge <| mv rfl <| mv rfl <| ev (Ev.add rfl rfl (I64.mk (by omega) (by omega))) <| as_ rfl <| dne <| Pst.blk_norm ?_
  have hq11 : (((fromL rs j + (getF (b.drop (fromL rs j))).2.1 : Nat) : Int) : Int) = ((fromL rs (j + 1) : Nat) : Int) := by omega
  refine Pst.re (t := 5) rfl (congrArg (Value.int .i64) hq11) ?_
  exact Pst.ag ⟨(j + 1), q2, A1_8, c1_8, rfl, rfl, by omega, by exact hq3, (((K8.rm s2).sel s0).sel s1)⟩ rfl (by omega)
 replace hc12 := of_decide_eq_false hc12
 refine WP.exit (Pst.then_exit (Pst.then_exit (Pst.blk_eq (Pst.norm ?_))))
 refine rg <| ev (Ev.loadBox ag_59 rfl rfl (K3.x s1)) <| mv rfl ?_
 refine stw rfl rfl rfl sz_59 K3 s2 rfl rfl fun w9 K9 => ?_
 refine as_ rfl <| dn ?_
 refine WP.ret (Pst.sc_ret (Pst.retC rfl ⟨_, _, rfl, ⟨_, rfl, loads_box (cs := [.int .i64 sj.1.Term, .int .i64 sj.1.Vote, .slice A1 sj.2.length c1]) ag_59 rfl (K9.x s0)⟩, ⟨_, _, rfl, rfl, rfl⟩⟩ ?_))
 have hje : j = rs.length := read_end (tail := tail) hj hok (by rw [← hb]; exact .inr (by omega))
 have hsq : sj = q := by have h9 := hsj; rw [hje, List.take_length, hst] at h9; exact (Option.some.inj h9).symm
 have hq12 : ((⟨⟨sj.1.Term, sj.1.Vote⟩, sj.2⟩ : AState) : AState) = (⟨q.1, q.2⟩ : AState) := by rw [hsq]
 have hq13 : (sj.1.Term : Int) = (⟨q.1, q.2⟩ : AState).b.Term := by rw [← hq12]
 have hq14 : (sj.1.Vote : Int) = (⟨q.1, q.2⟩ : AState).b.Vote := by rw [← hq12]
 have hq15 : (sj.2 : List AEntry) = ((⟨q.1, q.2⟩ : AState).l) := by rw [← hq12]
 have hq16 : (fromL rs j : Nat) = ((bytesL rs).length) := by rw [hje, fromL_all]
 exact ⟨A1, c1, by first | (rw [hq13, hq14, hq16, hq15] <;> rfl) | (rw [hq15, hq13, hq14, hq16] <;> rfl), by rw [← hq15]; exact ((K9.rm s2).rm s0)⟩

theorem Read_ok {S0 : Nat → Prop} (w : World) {A_b : Option Addr} {c_b : Nat} {b : List (BitVec 8)} (h_b : Sl tByte S0 w A_b c_b b) {rs : List Rec} {tail : List (BitVec 8)} {q : ABallot × List AEntry} (hb : b = bytesL rs ++ tail) (hok : ∀ r ∈ rs, okR r) (hst : stepsR ((⟨0, 0⟩ : ABallot), ([] : List AEntry)) rs = some q) (ht : tail = [] ∨ (getF tail).2.2 ≠ 0) (hn : b.length ≤ 70000) :
    Rets Tryz.prog 9 #[.slice A_b b.length c_b] w fun v w' => ∃ (B1_0 : Option Addr) (d1_0 : Nat), v = .tuple #[.agg #[.int .i64 q.1.Term, .int .i64 q.1.Vote], .agg #[.int .i64 ((⟨0, 0, q.2⟩ : ALog).Base), .int .i64 ((⟨0, 0, q.2⟩ : ALog).BaseTerm), .slice B1_0 (((⟨0, 0, q.2⟩ : ALog).L).length) d1_0], .int .i64 (((bytesL (rs)).length : Nat) : Int)] ∧ Hp w S0 w' [rOwn tEntry 68 B1_0 d1_0 ((⟨0, 0, q.2⟩ : ALog).L)] := by
 refine WP.enter Tryz.func9 rfl Tryz.ntmps9 rfl ?_
 have H0 := Hp.init w S0
 have hb_b := h_b.len_le
 refine rg ?_
 refine al zero_23 rfl H0 fun g1 w1 K1 => ?_
 refine al zero_26 rfl K1 fun g2 w2 K2 => ?_
 refine as_ rfl <| dn <| rg <| mv rfl <| WL.call rfl rfl rfl cl_27 (read_ok _ (K2.a h_b).any hb hok hst ht hn) rfl ?_
 rintro _ w3 ⟨B0_0_3, d0_0_3, rfl, h3⟩
 have K3 := K2.f1 h3
 have hL3_0 := (K3.o s0).len_le
 refine mv rfl <| xt rfl rfl <| xt rfl rfl ?_
 refine al zero_59 rfl K3 fun g3 w4 K4 => ?_
 refine stw rfl rfl rfl sz_59 K4 s0 rfl rfl fun w5 K5 => ?_
 refine as_ rfl <| dn ?_
 refine He K5 (fun _ K => ((K.rm s3).rm s2)) (fun l0 rk lJ wJ => lJ = (4, .int .i64 (((bytesL rs).length : Nat) : Int)) :: l0 ∧ Hp w S0 wJ (rBx g2 26 [.int .i64 0, .int .i64 0, .slice B0_0_3 (((⟨q.1, q.2⟩ : AState).l).length) d0_0_3] :: rBx g1 23 [.int .i64 ((⟨q.1, q.2⟩ : AState).b.Term), .int .i64 ((⟨q.1, q.2⟩ : AState).b.Vote)] :: rk)) (fun hns H1 => ?_) ?_
 ·
  have k1 := ((H1.rm s3).rm s2)
  refine Tn 0 1 hns rfl (fun _ _ => Ev.field (q := ⟨g3, 0, none⟩) fa_59_0 rfl rfl) k1 <| Tn 1 3 hns rfl (fun _ hK => Ev.loadBoxPart (cs' := [.int .i64 ((⟨q.1, q.2⟩ : AState).b.Term), .int .i64 ((⟨q.1, q.2⟩ : AState).b.Vote)]) ag_23 rfl rfl (hK.x s0) rfl) k1 ?_
  refine Tn 2 7 hns rfl (fun _ _ => Ev.field (q := ⟨g3, 2, none⟩) fa_59_1 rfl rfl) k1 <| Tn 3 15 hns rfl (fun _ hK => Ev.loadBoxCell na_24 rfl (hK.x s0) rfl) k1 ?_
  refine Tn 4 31 hns rfl (fun _ _ => Ev.build (vs := [(2, .slice B0_0_3 (((⟨q.1, q.2⟩ : AState).l).length) d0_0_3)]) (cs := [.int .i64 0, .int .i64 0, .slice B0_0_3 (((⟨q.1, q.2⟩ : AState).l).length) d0_0_3]) rfl (by apply bl_26_2S)) k1 ?_
  refine Tm 5 63 hns rfl rfl k1 <| O1 6 rfl ?_
  refine stw rfl rfl rfl sz_23 H1 s3 rfl rfl fun w6 K6 => ?_
  have k2 := ((K6.rm s3).rm s0)
  refine WH.next k2 <| O1 7 rfl ?_
  refine stw rfl rfl rfl sz_26 K6 s3 rfl rfl fun w7 K7 => ?_
  have k3 := ((K7.rm s1).rm s0)
  refine WH.next k3 <| Ta 8 511 hns rfl rfl k3 ?_
  exact Dn ⟨rfl, K7⟩ rfl
 rintro _ w8 ⟨rfl, K8⟩
 refine WP.ret (Pst.retC rfl ⟨_, _, rfl, ⟨_, rfl, loads_box (cs := [.int .i64 ((⟨q.1, q.2⟩ : AState).b.Term), .int .i64 ((⟨q.1, q.2⟩ : AState).b.Vote)]) ag_23 rfl (K8.x s1)⟩, ⟨_, _, rfl, ⟨_, rfl, loads_box (cs := [.int .i64 0, .int .i64 0, .slice B0_0_3 (((⟨q.1, q.2⟩ : AState).l).length) d0_0_3]) ag_26 rfl (K8.x s0)⟩, ⟨_, _, rfl, rfl, rfl⟩⟩⟩ ?_)
 have hq1 : ((⟨q.1, q.2⟩ : AState).b : ABallot) = q.1 := by first | with_reducible rfl | (simp; done) | omega
 have hq2 : ((⟨q.1, q.2⟩ : AState).b.Term : Int) = q.1.Term := by rw [← hq1]
 have hq3 : ((⟨q.1, q.2⟩ : AState).b.Vote : Int) = q.1.Vote := by rw [← hq1]
 have hq4 : ((⟨0, 0, (⟨q.1, q.2⟩ : AState).l⟩ : ALog) : ALog) = (⟨0, 0, q.2⟩ : ALog) := by first | with_reducible rfl | (simp; done) | omega
 have hq5 : (0 : Int) = (⟨0, 0, q.2⟩ : ALog).Base := by rw [← hq4]
 have hq6 : (0 : Int) = (⟨0, 0, q.2⟩ : ALog).BaseTerm := by rw [← hq4]
 have hq7 : ((⟨q.1, q.2⟩ : AState).l : List AEntry) = ((⟨0, 0, q.2⟩ : ALog).L) := by rw [← hq4]
 have hq8 : ((bytesL rs).length : Nat) = ((bytesL (rs)).length) := by first | with_reducible rfl | (simp; done) | omega
 exact ⟨B0_0_3, d0_0_3, by first | (rw [hq2, hq3, hq8, hq7, ← hq5, ← hq6] <;> rfl) | (rw [hq7, hq2, hq3, hq8, ← hq5, ← hq6] <;> rfl), by rw [← hq7]; exact (((K8.rm s2).rm s1).rm s0)⟩

theorem Run_ok {S0 : Nat → Prop} (w : World) {A_b : Option Addr} {c_b : Nat} {b : List (BitVec 8)} (h_b : Sl tByte Any w A_b c_b b) {rs : List Rec} (hb : b = bytesL rs) (hok : ∀ r ∈ rs, okR r) (hn : b.length ≤ 70000) :
    Rets Tryz.prog 8 #[.slice A_b b.length c_b] w fun v w' => ∃ (A0 : Option Addr) (c0 : Nat), v = .tuple #[.slice A0 ((rs.map frmOf).length) c0, .int .i64 ((b.length : Nat) : Int), .int .i64 0] ∧ Hp w S0 w' [rOwn tFrame 38 A0 c0 (rs.map frmOf)] := by
 refine WP.enter Tryz.func8 rfl Tryz.ntmps8 rfl ?_
 have H0 := Hp.init w S0
 have hb_b := h_b.len_le
 refine rg <| as_ rfl <| as_ rfl <| as_ rfl <| dn ?_
 refine WP.jumps (lb := 0) (fun mJ lJ wJ => ∃ (j : Nat) (A1 : Option Addr) (c1 : Nat) (gf : Nat) (v0 : Value) (v1 : Value), lJ = [(0, .slice A_b b.length c_b), (5, .slice A1 (((rs.take j).map frmOf).length) c1), (6, .pointer (some ⟨gf, 0, none⟩)), (7, .int .i64 ((fromL rs j : Nat) : Int))] ∧ mJ = rs.length - j ∧ (j ≤ rs.length) ∧ Hp w S0 wJ [rOwn tFrame 38 A1 c1 ((rs.take j).map frmOf), rBx gf 38 [v0, v1]]) rfl ?_ ?_
 ·
  rintro _ _ w2 ⟨j, A1, c1, gf, v0, v1, rfl, rfl, hj, K2⟩
  refine WP.seq <| rg <| mv rfl <| mv rfl <| ev (Ev.len Tryz.underlying32 rfl) <| ev (Ev.eql rfl rfl) <| dn ?_
  refine WP.cond_end rfl (fun hc13 => ?_) (fun hc13 => ?_)
  ·
   replace hc13 := of_decide_eq_true hc13
   refine rg <| mv rfl <| mv rfl <| as_ rfl <| as_ rfl <| as_ rfl <| dn ?_
   refine WP.ret (Pst.then_ret (Pst.jump_ret (Pst.body_ret rfl rfl rfl ?_)))
   have hje : j = rs.length := read_end (tail := []) hj hok (.inr (by rw [List.append_nil, ← hb]; omega))
   have hq3 : (((rs.take j).map frmOf) : List AFrame) = (rs.map frmOf) := by rw [hje, List.take_length]
   rw [hq3] at K2
   have hq4 : (fromL rs j : Nat) = b.length := by omega
   exact ⟨A1, c1, by rw [hq3, hq4] <;> rfl, (K2.rm s1)⟩
  replace hc13 := of_decide_eq_false hc13
  refine WP.skip (Pst.norm ?_)
  refine WP.seq ?_
  have hjl : j < rs.length := by
   rcases Nat.lt_or_ge j rs.length with h | h
   ·
    exact h
   ·
    have h9 : j = rs.length := by omega
    exfalso; apply hc13; rw [h9, fromL_all, hb]
  obtain ⟨r, hr⟩ := get_some (xs := rs) (i := j) hjl
  have hg := get_at (tail := []) hr (hok r (mem_of_get hr))
  rw [List.append_nil, ← hb] at hg
  have hfl := from_lt hr
  rw [← hb] at hfl
  have hrl : rs.length ≤ 70000 := recs_many hb hn
  have hg2 : (getF (b.drop (fromL rs j))).2.1 = (packL r.2).length + 8 := by rw [hg]
  have hfs := fromL_succ hr
  have hpl := packL_len (hok r (mem_of_get hr)).2.2
  have hp8 := (hok r (mem_of_get hr)).2.1
  refine rg <| mv rfl <| mv rfl <| ev (Ev.cutFrom (lo := fromL rs j) (xs := b) Tryz.underlying32 sz_5 rfl rfl rfl (by omega) (h_b.ext K2.ext).cap) <| WL.call rfl rfl rfl cl_26 (Get_ok _ ((h_b.ext K2.ext).cutFrom (lo := fromL rs j) (by omega)) (by rw [List.length_drop]; omega)) rfl ?_
  rintro _ w3 ⟨B0_0_3, d0_0_3, rfl, h3⟩
  have K3 := K2.f1 h3
  have hL3_0 := (K3.o s0).len_le
  refine mv rfl <| xt rfl rfl <| xt rfl rfl <| xt rfl rfl ?_
  refine stw rfl rfl rfl sz_38 K3 s2 rfl rfl fun w4 K4 => ?_
  refine as_ rfl <| as_ rfl <| dn <| rg <| mv rfl <| ev (Ev.eql rfl rfl) <| dn ?_
  refine WP.cond_end rfl (fun hc25 => ?_) (fun hc25 => ?_)
  ·
   replace hc25 := of_decide_eq_true hc25
   refine rg <| mv rfl <| ev (Ev.loadBox ag_38 rfl rfl (K4.x s0)) ?_
   have H4 := K4.fz s1
   refine bs1 (τ := tFrame) (x := (⟨((getF (b.drop (fromL rs j))).1.1 : Int), (getF (b.drop (fromL rs j))).1.2⟩ : AFrame)) rfl (by intro _; apply bs_34_1_IO) rfl H4 (fun _ e => ⟨_, _, rfl, (H4.s s0).ext e⟩) fun g2 w5 K5 => ?_
   have H5 := K5.fz s0
   refine apd (ys := ([(⟨((getF (b.drop (fromL rs j))).1.1 : Int), (getF (b.drop (fromL rs j))).1.2⟩ : AFrame)] : List AFrame)) H5 s3 rfl rfl (H5.s s0) Tryz.underlying34 ei_38 (by rw [List.length_map, List.length_take]; omega) (by exact Nat.le_of_ble_eq_true rfl) rfl fun Ap1 cp1 w6 K6 => ?_
   refine mv rfl <| mv rfl <| ev (Ev.add rfl rfl (I64.mk (by omega) (by omega))) <| as_ rfl <| as_ rfl <| dn ?_
   refine WP.goto (Pst.then_goto ?_)
   have hq5 : ((((rs.take j).map frmOf) ++ ([(⟨((getF (b.drop (fromL rs j))).1.1 : Int), (getF (b.drop (fromL rs j))).1.2⟩ : AFrame)] : List AFrame)) : List AFrame) = ((rs.take (j + 1)).map frmOf) := by rw [take_snoc hr, List.map_append, hg]; rfl
   refine Pst.re (t := 5) rfl (congrArg (fun z => Value.slice Ap1 (List.length z) cp1) hq5) ?_
   have hq6 : (((fromL rs j + (getF (b.drop (fromL rs j))).2.1 : Nat) : Int) : Int) = ((fromL rs (j + 1) : Nat) : Int) := by omega
   refine Pst.re (t := 7) rfl (congrArg (Value.int .i64) hq6) ?_
   rw [hq5] at K6
   exact Pst.jag ⟨(j + 1), Ap1, cp1, gf, .int .i64 ((⟨((getF (b.drop (fromL rs j))).1.1 : Int), (getF (b.drop (fromL rs j))).1.2⟩ : AFrame).Kind), .slice B0_0_3 (((⟨((getF (b.drop (fromL rs j))).1.1 : Int), (getF (b.drop (fromL rs j))).1.2⟩ : AFrame).Body).length) d0_0_3, rfl, rfl, by omega, ((K6.rm s2).rm s1)⟩ rfl (by omega)
  replace hc25 := of_decide_eq_false hc25
  rw [hg] at hc25; exact absurd rfl hc25
 ·
  intro hp0
  refine rg <| as_ rfl <| dn <| rg ?_
  refine al zero_38 rfl H0 fun g1 w1 K1 => ?_
  refine dn <| rg <| as_ rfl <| as_ rfl <| as_ rfl <| dn ?_
  have H1 := K1.nil tFrame 38
  have hq1 : (([] : List AFrame) : List AFrame) = ((rs.take 0).map frmOf) := by rfl
  refine WP.re (t := 5) rfl (congrArg (fun z => Value.slice none (List.length z) 0) hq1) ?_
  have hq2 : (0 : Int) = ((fromL rs 0 : Nat) : Int) := by rfl
  refine WP.re (t := 7) rfl (congrArg (Value.int .i64) hq2) ?_
  have H2 := H1.nil tFrame 38
  have H3 := (hq1 ▸ H2 : Hp w S0 w1 (rOwn tFrame 38 none 0 ((rs.take 0).map frmOf) :: [rOwn tFrame 38 none 0 [], rBx g1 38 [.int .i64 0, .slice none 0 0]]))
  exact WP.kp hp0 ⟨0, none, 0, g1, .int .i64 0, .slice none 0 0, rfl, rfl, by exact Nat.zero_le _, (H3.rm s1)⟩ rfl

theorem Same4_ok {S0 : Nat → Prop} (w : World) {A_a : Option Addr} {c_a : Nat} {a : List AEntry} (h_a : Sl tEntry S0 w A_a c_a a) {A_b : Option Addr} {c_b : Nat} {b : List AEntry} (h_b : Sl tEntry S0 w A_b c_b b) :
    Rets Tryz.prog 28 #[.slice A_a a.length c_a, .slice A_b b.length c_b] w fun v w' => v = .bool (decide (a = b)) ∧ Hp w S0 w' [] := by
 refine WP.enter Tryz.func28 rfl Tryz.ntmps28 rfl ?_
 have H0 := Hp.init w S0
 have hb_a := h_a.len_le
 have hb_b := h_b.len_le
 refine rg <| as_ rfl <| dn <| WP.seq <| rg <| mv rfl <| ev (Ev.len Tryz.underlying24 rfl) <| mv rfl <| ev (Ev.len Tryz.underlying24 rfl) <| ev (Ev.neq rfl rfl) ?_
 refine dn ?_
 refine WP.cond_end rfl (fun hc10 => ?_) (fun hc10 => ?_)
 ·
  replace hc10 := not_dec_t hc10
  refine rg <| as_ rfl <| dn ?_
  refine WP.ret (Pst.then_ret (Pst.body_ret rfl rfl rfl ?_))
  have hq1 : (false : Bool) = (decide (a = b)) := by symm; simp only [decide_eq_false_iff_not]; intro h; subst h; exact hc10 rfl
  exact ⟨by rw [← hq1] <;> rfl, H0⟩
 replace hc10 := not_dec_f hc10
 refine WP.skip (Pst.norm ?_)
 refine WP.seq <| rg <| as_ rfl <| dn <| WP.block <| Lp H0 (fun l0 rk mJ lJ wJ => ∃ (k : Nat), lJ = (5, .int .i64 ((k : Nat) : Int)) :: l0 ∧ mJ = a.length - k ∧ k ≤ a.length ∧ (a.take k = b.take k) ∧ Hp w S0 wJ rk) ⟨0, rfl, rfl, Nat.zero_le _, by rfl, H0⟩ rfl ?_
 rintro _ _ w1 ⟨k, rfl, rfl, hk, hse, K1⟩
 refine WP.seq <| rg <| mv rfl <| mv rfl <| ev (Ev.len Tryz.underlying24 rfl) <| ev (Ev.lss rfl rfl) <| dn ?_
 refine WP.cond_end rfl (fun hc14 => ?_) (fun hc14 => ?_)
 ·
  replace hc14 := of_decide_eq_true hc14
  refine WP.skip (Pst.norm ?_)
  refine WP.seq <| WP.block <| WP.draw (by kernel_rfl) (by kernel_rfl) <| WQ.ev (Ev.move rfl) rfl <| WQ.ev (Ev.move rfl) rfl ?_
  obtain ⟨x1, hx1⟩ := get_some (xs := a) (i := k) (by omega)
  refine WQ.ev (Ev.index (i := k) Tryz.underlying24 sz_68 rfl rfl rfl (lt_of_get hx1) ((K1.a h_a).some_ hx1)) rfl <| WQ.ev (Ev.loadRow ag_68 rfl rfl ((K1.a h_a).flat_row hx1)) rfl ?_
  refine WQ.ev (Ev.move rfl) rfl <| WQ.ev (Ev.move rfl) rfl ?_
  obtain ⟨x2, hx2⟩ := get_some (xs := b) (i := k) (by omega)
  refine WQ.ev (Ev.index (i := k) Tryz.underlying24 sz_68 rfl rfl rfl (lt_of_get hx2) ((K1.a h_b).some_ hx2)) rfl <| WQ.ev (Ev.loadRow ag_68 rfl rfl ((K1.a h_b).flat_row hx2)) rfl ?_
  refine WQ.ev (Ev.neS rfl rfl (eqv_68 x1 x2) eqg_68) rfl ?_
  refine WQ.done fun w2 e2 => ?_
  have K2 := K1.grow e2
  refine WP.cond_end rfl (fun hc25 => ?_) (fun hc25 => ?_)
  ·
   replace hc25 := not_dec_t hc25
   refine rg <| as_ rfl <| dn ?_
   refine WP.ret (Pst.blk_ret (Pst.then_ret (Pst.then_ret (Pst.blk_ret (Pst.then_ret (Pst.body_ret rfl rfl rfl ?_))))))
   have hq2 : (false : Bool) = (decide (a = b)) := by symm; simp only [decide_eq_false_iff_not]; intro h; subst h; rw [hx1] at hx2; cases hx2; exact hc25 rfl
   exact ⟨by rw [← hq2] <;> rfl, K2⟩
  replace hc25 := not_dec_f hc25
  refine WP.skip (Pst.blk_norm (Pst.norm ?_))
  refine rge <| mv rfl <| ev (Ev.add rfl rfl (I64.mk (by omega) (by omega))) <| as_ rfl <| dne ?_
  exact Pst.ag ⟨(k + 1), rfl, rfl, by omega, by exact same_snoc hse hx1 hx2 (by simpa using hc25), K2⟩ rfl (by omega)
 replace hc14 := of_decide_eq_false hc14
 refine WP.exit (Pst.then_exit (Pst.then_exit (Pst.blk_eq (Pst.norm ?_))))
 refine rg <| as_ rfl <| dn ?_
 refine WP.ret (Pst.body_ret rfl rfl rfl ?_)
 have hq3 : (true : Bool) = (decide (a = b)) := by symm; simp only [decide_eq_true_eq]; rw [List.take_of_length_le (by omega), List.take_of_length_le (by omega)] at hse; exact hse
 exact ⟨by rw [← hq3] <;> rfl, K1⟩

theorem Logs_ok {S0 : Nat → Prop} (w : World) (a : ALog) {B0_a : Option Addr} {d0_a : Nat} (h0_a : Sl tEntry S0 w B0_a d0_a a.L) (b : ALog) {B0_b : Option Addr} {d0_b : Nat} (h0_b : Sl tEntry S0 w B0_b d0_b b.L) :
    Rets Tryz.prog 10 #[.agg #[.int .i64 a.Base, .int .i64 a.BaseTerm, .slice B0_a a.L.length d0_a], .agg #[.int .i64 b.Base, .int .i64 b.BaseTerm, .slice B0_b b.L.length d0_b]] w fun v w' => v = .bool ((decide (a.L = b.L) && decide (a.Base = b.Base)) && decide (a.BaseTerm = b.BaseTerm)) ∧ Hp w S0 w' [] := by
 refine WP.enter Tryz.func10 rfl Tryz.ntmps10 rfl ?_
 have H0 := Hp.init w S0
 refine rg ?_
 refine bx rfl rfl H0 fun g1 w1 K1 => ?_
 refine bx rfl rfl K1 fun g2 w2 K2 => ?_
 refine as_ rfl <| dn <| rg <| ev (Ev.field (q := ⟨g1, 2, none⟩) fa_26_2 rfl rfl) <| ev (Ev.loadBoxCell na_24 rfl (K2.x s1) rfl) <| ev (Ev.field (q := ⟨g2, 2, none⟩) fa_26_2 rfl rfl) ?_
 refine ev (Ev.loadBoxCell na_24 rfl (K2.x s0) rfl) ?_
 refine C0 K2 rfl rfl rfl cl_28 (Same4_ok _ (K2.a h0_a).any (K2.a h0_b).any) fun w3 K3 => ?_
 refine as_ rfl <| dn <| rg <| mv rfl <| mv rfl ?_
 refine WL.cutb 6 18 ((decide (a.L = b.L)) && (decide (a.Base = b.Base))) ?_ ?_
 ·
  cases hb12 : decide (a.L = b.L) with
  | true =>
   have hb12p := of_decide_eq_true hb12
   refine WL.evg rfl (Ev.field (q := ⟨g1, 0, none⟩) fa_26_0 rfl rfl) rfl <| WL.evg rfl (Ev.loadBoxCell na_3 rfl (K3.x s1) rfl) rfl <| WL.evg rfl (Ev.field (q := ⟨g2, 0, none⟩) fa_26_0 rfl rfl) rfl ?_
   refine WL.evg rfl (Ev.loadBoxCell na_3 rfl (K3.x s0) rfl) rfl <| WL.evg rfl (Ev.eql rfl rfl) rfl <| ev (Ev.pick_t rfl rfl) ?_
   exact WL.cend rfl
  | false =>
   refine WL.pass rfl rfl rfl <| WL.pass rfl rfl rfl <| WL.pass rfl rfl rfl <| WL.pass rfl rfl rfl <| WL.pass rfl rfl rfl <| ev (Ev.pick_f rfl rfl) ?_
   exact WL.cend rfl
 refine mv rfl ?_
 refine WL.cutb 6 25 (((decide (a.L = b.L)) && (decide (a.Base = b.Base))) && (decide (a.BaseTerm = b.BaseTerm))) ?_ ?_
 ·
  cases hb19 : ((decide (a.L = b.L)) && (decide (a.Base = b.Base))) with
  | true =>
   have hb19p := hb19
   try simp only [Bool.and_eq_true, Bool.and_eq_false_imp, decide_eq_true_eq, decide_eq_false_iff_not] at hb19p
   refine WL.evg rfl (Ev.field (q := ⟨g1, 1, none⟩) fa_26_1 rfl rfl) rfl <| WL.evg rfl (Ev.loadBoxCell na_3 rfl (K3.x s1) rfl) rfl <| WL.evg rfl (Ev.field (q := ⟨g2, 1, none⟩) fa_26_1 rfl rfl) rfl ?_
   refine WL.evg rfl (Ev.loadBoxCell na_3 rfl (K3.x s0) rfl) rfl <| WL.evg rfl (Ev.eql rfl rfl) rfl <| ev (Ev.pick_t rfl rfl) ?_
   exact WL.cend rfl
  | false =>
   refine WL.pass rfl rfl rfl <| WL.pass rfl rfl rfl <| WL.pass rfl rfl rfl <| WL.pass rfl rfl rfl <| WL.pass rfl rfl rfl <| ev (Ev.pick_f rfl rfl) ?_
   exact WL.cend rfl
 refine as_ rfl <| dn ?_
 refine WP.ret (Pst.body_ret rfl rfl rfl ?_)
 have hq1 : ((((decide (a.L = b.L)) && (decide (a.Base = b.Base))) && (decide (a.BaseTerm = b.BaseTerm))) : Bool) = ((decide (a.L = b.L) && decide (a.Base = b.Base)) && decide (a.BaseTerm = b.BaseTerm)) := by rfl
 exact ⟨by rw [hq1] <;> rfl, K3.z⟩

end Go.Proofs.YtlnjmkmhmbijmaaGreat
