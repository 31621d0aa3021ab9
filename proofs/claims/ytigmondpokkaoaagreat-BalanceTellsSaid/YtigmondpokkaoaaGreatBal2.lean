/- Contracts of functions: what each call hands back, and that it leaves all that was there as it was. -/
import Derived.Test.YtigmondpokkaoaaGreatBal
set_option maxRecDepth 4000
set_option linter.all false
namespace Go.Proofs.YtigmondpokkaoaaGreat
open Go.RowKit

theorem zero_37 : ∀ w, (zeroValue 37).run Tryz.prog w = .ok (.agg #[.int .i64 0, .int .i64 0]) w := fun _ => by kernel_rfl
theorem cl_38 : Callable Tryz.prog 38 := fun _ _ => by kernel_rfl
theorem cl_17 : Callable Tryz.prog 17 := fun _ _ => by kernel_rfl
theorem cl_40 : Callable Tryz.prog 40 := fun _ _ => by kernel_rfl
theorem cl_41 : Callable Tryz.prog 41 := fun _ _ => by kernel_rfl

theorem best_one {f : ALoad → ALoad → Bool} {l : List ALoad} {x : ALoad} (hx : l[0]? = some x) : bestL f (l.take 1) = x := by
  cases l with
  | nil => simp at hx
  | cons y l => simp at hx; subst hx; simp [bestL]
theorem best_mem {f : ALoad → ALoad → Bool} : ∀ {l : List ALoad}, l ≠ [] → bestL f l ∈ l
  | [], h => (h rfl).elim
  | x :: l, _ => by
    have key : ∀ (l : List ALoad) (x : ALoad), l.foldl (fun m y => if f y m = true then y else m) x ∈ x :: l := by
      intro l
      induction l with
      | nil => intro x; simp
      | cons y l ih =>
        intro x
        rw [List.foldl_cons]
        rcases List.mem_cons.1 (ih (if f y x = true then y else x)) with h | h
        · rw [h]; split <;> simp
        · simp [h]
    exact key l x
theorem loadN_le (cs : List AChunk) (id : Int) : loadN cs id ≤ cs.length := List.length_filter_le _ _
theorem fitLoads_N {cs : List AChunk} {l : List ANode} {alive : List Int} {x : ALoad} (h : x ∈ fitLoads cs l alive) : 0 ≤ x.N ∧ x.N ≤ cs.length := by
  unfold fitLoads loadsL at h
  split at h
  · obtain ⟨n, _, rfl⟩ := List.mem_map.1 h
    have := loadN_le cs n.ID
    exact ⟨Int.natCast_nonneg _, by simp only; omega⟩
  · simp at h
theorem best_N {f : ALoad → ALoad → Bool} {cs : List AChunk} {l : List ANode} {alive : List Int} (h : ¬ (fitLoads cs l alive).length = 0) : 0 ≤ (bestL f (fitLoads cs l alive)).N ∧ (bestL f (fitLoads cs l alive)).N ≤ cs.length :=
  fitLoads_N (best_mem (by intro e; rw [e] at h; exact h rfl))

theorem spread1_ok {S0 : Nat → Prop} (w : World) (a : ALoad) (b : ALoad) :
    Rets Tryz.prog 38 #[.agg #[.int .i64 a.Node, .int .i64 a.N], .agg #[.int .i64 b.Node, .int .i64 b.N]] w fun v w' => v = .int .i64 (cmpI a.N b.N) ∧ Hp w S0 w' [] := by
 refine WP.enter Tryz.func38 rfl Tryz.ntmps38 rfl ?_
 have H0 := Hp.init w S0
 refine rg ?_
 refine bx (cs := [.int .i64 a.Node, .int .i64 a.N]) rfl rfl H0 fun g1 w1 K1 => ?_
 refine bx (cs := [.int .i64 b.Node, .int .i64 b.N]) rfl rfl K1 fun g2 w2 K2 => ?_
 refine as_ rfl <| dn <| rg <| ev (Ev.field (q := ⟨g1, 1, none⟩) fa_37_1 rfl rfl) <| ev (Ev.loadBoxCell na_3 rfl (K2.x s1) rfl) <| ev (Ev.field (q := ⟨g2, 1, none⟩) fa_37_1 rfl rfl) ?_
 refine ev (Ev.loadBoxCell na_3 rfl (K2.x s0) rfl) <| WL.call rfl rfl rfl cl_39 (Compare_ok (S0 := Any) _ a.N b.N) rfl ?_
 rintro _ w3 ⟨rfl, h3⟩
 have K3 := K2.c0 h3
 refine as_ rfl <| dn ?_
 refine WP.ret (Pst.body_ret rfl rfl rfl ?_)
 exact ⟨rfl, ((K3.rm s1).rm s0)⟩

theorem MaxFuncLoad_ok {S0 : Nat → Prop} (w : World) {A_s : Option Addr} {c_s : Nat} {s : List ALoad} (h_s : Sl tLoad S0 w A_s c_s s) (hne : 1 ≤ s.length) :
    Rets Tryz.prog 40 #[.slice A_s s.length c_s, .func (.func 38) #[] #[]] w fun v w' => v = .agg #[.int .i64 ((bestL maxB s).Node), .int .i64 ((bestL maxB s).N)] ∧ Hp w S0 w' [] := by
 refine WP.enter Tryz.func40 rfl Tryz.ntmps40 rfl ?_
 have H0 := Hp.init w S0
 have hb_s := h_s.len_le
 refine rg ?_
 refine al (cs := [.int .i64 0, .int .i64 0]) zero_37 rfl H0 fun g1 w1 K1 => ?_
 refine dn <| WP.seq <| rg <| mv rfl <| ev (Ev.len Tryz.underlying34 rfl) <| ev (Ev.lss rfl rfl) <| dn ?_
 refine WP.cond_end rfl (fun hc9 => ?_) (fun hc9 => ?_)
 ·
  replace hc9 := of_decide_eq_true hc9
  omega
 replace hc9 := of_decide_eq_false hc9
 refine WP.skip (Pst.norm ?_)
 refine rg <| mv rfl ?_
 obtain ⟨x1, hx1⟩ := get_some (xs := s) (i := 0) (by omega)
 refine ev (Ev.index (i := 0) Tryz.underlying34 sz_37 rfl rfl rfl (lt_of_get hx1) ((K1.a h_s).some_ hx1)) <| ev (Ev.loadRow ag_37 rfl rfl ((K1.a h_s).flat_row hx1)) ?_
 refine al (cs := [.int .i64 0, .int .i64 0]) zero_37 rfl K1 fun g2 w2 K2 => ?_
 refine stw (ds := [.int .i64 x1.Node, .int .i64 x1.N]) rfl rfl rfl sz_37 K2 s0 rfl rfl fun w3 K3 => ?_
 refine dn <| WP.seq <| rg <| as_ rfl <| dn <| WP.block ?_
 have hq1 : (1 : Int) = ((1 : Nat) : Int) := by simp
 refine WP.re (t := 6) rfl (congrArg (Value.int .i64) hq1) ?_
 have hq2 : (.int .i64 x1.Node : Value) = .int .i64 ((bestL maxB (s.take 1)).Node) := by rw [best_one hx1]
 try rw [hq2] at K3
 have hq3 : (.int .i64 x1.N : Value) = .int .i64 ((bestL maxB (s.take 1)).N) := by rw [best_one hx1]
 try rw [hq3] at K3
 refine WP.lp (fun mJ lJ wJ => ∃ (j : Nat), lJ = [(0, .slice A_s s.length c_s), (1, .func (.func 38) #[] #[]), (4, .pointer (some ⟨g1, 0, none⟩)), (5, .pointer (some ⟨g2, 0, none⟩)), (6, .int .i64 ((j : Nat) : Int))] ∧ mJ = s.length - j ∧ (1 ≤ j ∧ j ≤ s.length) ∧ Hp w S0 wJ [rBx g2 37 [.int .i64 ((bestL maxB (s.take j)).Node), .int .i64 ((bestL maxB (s.take j)).N)], rBx g1 37 [.int .i64 0, .int .i64 0]]) ⟨1, rfl, rfl, by omega, K3⟩ rfl ?_
 rintro _ _ w4 ⟨j, rfl, rfl, hj, K4⟩
 refine WP.seq <| rg <| mv rfl <| mv rfl <| ev (Ev.len Tryz.underlying34 rfl) <| ev (Ev.lss rfl rfl) <| dn ?_
 refine WP.cond_end rfl (fun hc17 => ?_) (fun hc17 => ?_)
 ·
  replace hc17 := of_decide_eq_true hc17
  refine WP.skip (Pst.norm ?_)
  refine WP.seq <| WP.block <| WP.draw (by kernel_rfl) (by kernel_rfl) <| WQ.ev (Ev.move rfl) rfl <| WQ.ev (Ev.move rfl) rfl <| WQ.ev (Ev.move rfl) rfl ?_
  obtain ⟨x2, hx2⟩ := get_some (xs := s) (i := j) (by omega)
  refine WQ.ev (Ev.index (i := j) Tryz.underlying34 sz_37 rfl rfl rfl (lt_of_get hx2) ((K4.a h_s).some_ hx2)) rfl <| WQ.ev (Ev.loadRow ag_37 rfl rfl ((K4.a h_s).flat_row hx2)) rfl ?_
  refine WQ.ev (Ev.loadBox ag_37 rfl rfl (K4.x s0)) rfl <| WQ.call (v := .int .i64 (cmpI x2.N (bestL maxB (s.take j)).N)) rfl rfl rfl cl_38 (fun wq eq => (spread1_ok (S0 := Any) wq x2 (bestL maxB (s.take j))).mono (by rintro _ _ ⟨rfl, hq2⟩; exact ⟨rfl, hq2.ext⟩)) rfl ?_
  refine WQ.ev (Ev.gtr rfl rfl) rfl ?_
  refine WQ.done fun w5 e5 => ?_
  have K5 := K4.grow e5
  refine WP.cond_end rfl (fun hc27 => ?_) (fun hc27 => ?_)
  ·
   replace hc27 := of_decide_eq_true hc27
   refine rge <| mv rfl <| mv rfl <| ev (Ev.index (i := j) Tryz.underlying34 sz_37 rfl rfl rfl (lt_of_get hx2) ((K5.a h_s).some_ hx2)) <| ev (Ev.loadRow ag_37 rfl rfl ((K5.a h_s).flat_row hx2)) ?_
   refine stw (ds := [.int .i64 x2.Node, .int .i64 x2.N]) rfl rfl rfl sz_37 K5 s0 rfl rfl fun w6 K6 => ?_
   refine dne ?_
   refine Pst.blk_norm (Pst.norm ?_)
   refine rge <| mv rfl <| ev (Ev.add rfl rfl (I64.mk (by omega) (by omega))) <| as_ rfl <| dne ?_
   have hq4 : (((j + 1 : Nat) : Int) : Int) = (((j + 1) : Nat) : Int) := by simp
   refine Pst.re (t := 6) rfl (congrArg (Value.int .i64) hq4) ?_
   have hq5 : (.int .i64 x2.Node : Value) = .int .i64 ((bestL maxB (s.take (j + 1))).Node) := by rw [bestL_snoc hj.1 hx2]; first | rw [if_pos (show maxB x2 (bestL maxB (s.take j)) = true from decide_eq_true hc27)] | rw [if_neg (show ¬ maxB x2 (bestL maxB (s.take j)) = true from fun h => absurd (of_decide_eq_true h) (by omega))]
   try rw [hq5] at K6
   have hq6 : (.int .i64 x2.N : Value) = .int .i64 ((bestL maxB (s.take (j + 1))).N) := by rw [bestL_snoc hj.1 hx2]; first | rw [if_pos (show maxB x2 (bestL maxB (s.take j)) = true from decide_eq_true hc27)] | rw [if_neg (show ¬ maxB x2 (bestL maxB (s.take j)) = true from fun h => absurd (of_decide_eq_true h) (by omega))]
   try rw [hq6] at K6
   exact Pst.ag ⟨(j + 1), rfl, rfl, by omega, K6⟩ rfl (by omega)
  replace hc27 := of_decide_eq_false hc27
  refine WP.skip (Pst.blk_norm (Pst.norm ?_))
  refine rge <| mv rfl <| ev (Ev.add rfl rfl (I64.mk (by omega) (by omega))) <| as_ rfl <| dne ?_
  have hq7 : (((j + 1 : Nat) : Int) : Int) = (((j + 1) : Nat) : Int) := by simp
  refine Pst.re (t := 6) rfl (congrArg (Value.int .i64) hq7) ?_
  have hq8 : (.int .i64 ((bestL maxB (s.take j)).Node) : Value) = .int .i64 ((bestL maxB (s.take (j + 1))).Node) := by rw [bestL_snoc hj.1 hx2]; first | rw [if_pos (show maxB x2 (bestL maxB (s.take j)) = true from decide_eq_true hc27)] | rw [if_neg (show ¬ maxB x2 (bestL maxB (s.take j)) = true from fun h => absurd (of_decide_eq_true h) (by omega))]
  try rw [hq8] at K5
  have hq9 : (.int .i64 ((bestL maxB (s.take j)).N) : Value) = .int .i64 ((bestL maxB (s.take (j + 1))).N) := by rw [bestL_snoc hj.1 hx2]; first | rw [if_pos (show maxB x2 (bestL maxB (s.take j)) = true from decide_eq_true hc27)] | rw [if_neg (show ¬ maxB x2 (bestL maxB (s.take j)) = true from fun h => absurd (of_decide_eq_true h) (by omega))]
  try rw [hq9] at K5
  exact Pst.ag ⟨(j + 1), rfl, rfl, by omega, K5⟩ rfl (by omega)
 replace hc17 := of_decide_eq_false hc17
 refine WP.exit (Pst.then_exit (Pst.then_exit (Pst.blk_eq (Pst.norm ?_))))
 refine rg <| ev (Ev.loadBox ag_37 rfl rfl (K4.x s0)) ?_
 refine stw (ds := [.int .i64 ((bestL maxB (s.take j)).Node), .int .i64 ((bestL maxB (s.take j)).N)]) rfl rfl rfl sz_37 K4 s1 rfl rfl fun w7 K7 => ?_
 refine dn ?_
 refine WP.ret (Pst.retC rfl ⟨_, _, rfl, ⟨_, rfl, loads_box (cs := [.int .i64 ((bestL maxB (s.take j)).Node), .int .i64 ((bestL maxB (s.take j)).N)]) ag_37 rfl (K7.x s0)⟩, rfl⟩ ?_)
 have hq10 : ((bestL maxB (s.take j)) : ALoad) = (bestL maxB s) := by rw [List.take_of_length_le (by omega)]
 have hq11 : ((bestL maxB (s.take j)).Node : Int) = (bestL maxB s).Node := by rw [← hq10]
 have hq12 : ((bestL maxB (s.take j)).N : Int) = (bestL maxB s).N := by rw [← hq10]
 exact ⟨by rw [hq11, hq12] <;> rfl, ((K7.rm s1).rm s0)⟩

theorem MinFuncLoad_ok {S0 : Nat → Prop} (w : World) {A_s : Option Addr} {c_s : Nat} {s : List ALoad} (h_s : Sl tLoad S0 w A_s c_s s) (hne : 1 ≤ s.length) :
    Rets Tryz.prog 41 #[.slice A_s s.length c_s, .func (.func 38) #[] #[]] w fun v w' => v = .agg #[.int .i64 ((bestL minB s).Node), .int .i64 ((bestL minB s).N)] ∧ Hp w S0 w' [] := by
 refine WP.enter Tryz.func41 rfl Tryz.ntmps41 rfl ?_
 have H0 := Hp.init w S0
 have hb_s := h_s.len_le
 refine rg ?_
 refine al (cs := [.int .i64 0, .int .i64 0]) zero_37 rfl H0 fun g1 w1 K1 => ?_
 refine dn <| WP.seq <| rg <| mv rfl <| ev (Ev.len Tryz.underlying34 rfl) <| ev (Ev.lss rfl rfl) <| dn ?_
 refine WP.cond_end rfl (fun hc9 => ?_) (fun hc9 => ?_)
 ·
  replace hc9 := of_decide_eq_true hc9
  omega
 replace hc9 := of_decide_eq_false hc9
 refine WP.skip (Pst.norm ?_)
 refine rg <| mv rfl ?_
 obtain ⟨x1, hx1⟩ := get_some (xs := s) (i := 0) (by omega)
 refine ev (Ev.index (i := 0) Tryz.underlying34 sz_37 rfl rfl rfl (lt_of_get hx1) ((K1.a h_s).some_ hx1)) <| ev (Ev.loadRow ag_37 rfl rfl ((K1.a h_s).flat_row hx1)) ?_
 refine al (cs := [.int .i64 0, .int .i64 0]) zero_37 rfl K1 fun g2 w2 K2 => ?_
 refine stw (ds := [.int .i64 x1.Node, .int .i64 x1.N]) rfl rfl rfl sz_37 K2 s0 rfl rfl fun w3 K3 => ?_
 refine dn <| WP.seq <| rg <| as_ rfl <| dn <| WP.block ?_
 have hq1 : (1 : Int) = ((1 : Nat) : Int) := by simp
 refine WP.re (t := 6) rfl (congrArg (Value.int .i64) hq1) ?_
 have hq2 : (.int .i64 x1.Node : Value) = .int .i64 ((bestL minB (s.take 1)).Node) := by rw [best_one hx1]
 try rw [hq2] at K3
 have hq3 : (.int .i64 x1.N : Value) = .int .i64 ((bestL minB (s.take 1)).N) := by rw [best_one hx1]
 try rw [hq3] at K3
 refine WP.lp (fun mJ lJ wJ => ∃ (j : Nat), lJ = [(0, .slice A_s s.length c_s), (1, .func (.func 38) #[] #[]), (4, .pointer (some ⟨g1, 0, none⟩)), (5, .pointer (some ⟨g2, 0, none⟩)), (6, .int .i64 ((j : Nat) : Int))] ∧ mJ = s.length - j ∧ (1 ≤ j ∧ j ≤ s.length) ∧ Hp w S0 wJ [rBx g2 37 [.int .i64 ((bestL minB (s.take j)).Node), .int .i64 ((bestL minB (s.take j)).N)], rBx g1 37 [.int .i64 0, .int .i64 0]]) ⟨1, rfl, rfl, by omega, K3⟩ rfl ?_
 rintro _ _ w4 ⟨j, rfl, rfl, hj, K4⟩
 refine WP.seq <| rg <| mv rfl <| mv rfl <| ev (Ev.len Tryz.underlying34 rfl) <| ev (Ev.lss rfl rfl) <| dn ?_
 refine WP.cond_end rfl (fun hc17 => ?_) (fun hc17 => ?_)
 ·
  replace hc17 := of_decide_eq_true hc17
  refine WP.skip (Pst.norm ?_)
  refine WP.seq <| WP.block <| WP.draw (by kernel_rfl) (by kernel_rfl) <| WQ.ev (Ev.move rfl) rfl <| WQ.ev (Ev.move rfl) rfl <| WQ.ev (Ev.move rfl) rfl ?_
  obtain ⟨x2, hx2⟩ := get_some (xs := s) (i := j) (by omega)
  refine WQ.ev (Ev.index (i := j) Tryz.underlying34 sz_37 rfl rfl rfl (lt_of_get hx2) ((K4.a h_s).some_ hx2)) rfl <| WQ.ev (Ev.loadRow ag_37 rfl rfl ((K4.a h_s).flat_row hx2)) rfl ?_
  refine WQ.ev (Ev.loadBox ag_37 rfl rfl (K4.x s0)) rfl <| WQ.call (v := .int .i64 (cmpI x2.N (bestL minB (s.take j)).N)) rfl rfl rfl cl_38 (fun wq eq => (spread1_ok (S0 := Any) wq x2 (bestL minB (s.take j))).mono (by rintro _ _ ⟨rfl, hq2⟩; exact ⟨rfl, hq2.ext⟩)) rfl ?_
  refine WQ.ev (Ev.lss rfl rfl) rfl ?_
  refine WQ.done fun w5 e5 => ?_
  have K5 := K4.grow e5
  refine WP.cond_end rfl (fun hc27 => ?_) (fun hc27 => ?_)
  ·
   replace hc27 := of_decide_eq_true hc27
   refine rge <| mv rfl <| mv rfl <| ev (Ev.index (i := j) Tryz.underlying34 sz_37 rfl rfl rfl (lt_of_get hx2) ((K5.a h_s).some_ hx2)) <| ev (Ev.loadRow ag_37 rfl rfl ((K5.a h_s).flat_row hx2)) ?_
   refine stw (ds := [.int .i64 x2.Node, .int .i64 x2.N]) rfl rfl rfl sz_37 K5 s0 rfl rfl fun w6 K6 => ?_
   refine dne ?_
   refine Pst.blk_norm (Pst.norm ?_)
   refine rge <| mv rfl <| ev (Ev.add rfl rfl (I64.mk (by omega) (by omega))) <| as_ rfl <| dne ?_
   have hq4 : (((j + 1 : Nat) : Int) : Int) = (((j + 1) : Nat) : Int) := by simp
   refine Pst.re (t := 6) rfl (congrArg (Value.int .i64) hq4) ?_
   have hq5 : (.int .i64 x2.Node : Value) = .int .i64 ((bestL minB (s.take (j + 1))).Node) := by rw [bestL_snoc hj.1 hx2]; first | rw [if_pos (show minB x2 (bestL minB (s.take j)) = true from decide_eq_true hc27)] | rw [if_neg (show ¬ minB x2 (bestL minB (s.take j)) = true from fun h => absurd (of_decide_eq_true h) (by omega))]
   try rw [hq5] at K6
   have hq6 : (.int .i64 x2.N : Value) = .int .i64 ((bestL minB (s.take (j + 1))).N) := by rw [bestL_snoc hj.1 hx2]; first | rw [if_pos (show minB x2 (bestL minB (s.take j)) = true from decide_eq_true hc27)] | rw [if_neg (show ¬ minB x2 (bestL minB (s.take j)) = true from fun h => absurd (of_decide_eq_true h) (by omega))]
   try rw [hq6] at K6
   exact Pst.ag ⟨(j + 1), rfl, rfl, by omega, K6⟩ rfl (by omega)
  replace hc27 := of_decide_eq_false hc27
  refine WP.skip (Pst.blk_norm (Pst.norm ?_))
  refine rge <| mv rfl <| ev (Ev.add rfl rfl (I64.mk (by omega) (by omega))) <| as_ rfl <| dne ?_
  have hq7 : (((j + 1 : Nat) : Int) : Int) = (((j + 1) : Nat) : Int) := by simp
  refine Pst.re (t := 6) rfl (congrArg (Value.int .i64) hq7) ?_
  have hq8 : (.int .i64 ((bestL minB (s.take j)).Node) : Value) = .int .i64 ((bestL minB (s.take (j + 1))).Node) := by rw [bestL_snoc hj.1 hx2]; first | rw [if_pos (show minB x2 (bestL minB (s.take j)) = true from decide_eq_true hc27)] | rw [if_neg (show ¬ minB x2 (bestL minB (s.take j)) = true from fun h => absurd (of_decide_eq_true h) (by omega))]
  try rw [hq8] at K5
  have hq9 : (.int .i64 ((bestL minB (s.take j)).N) : Value) = .int .i64 ((bestL minB (s.take (j + 1))).N) := by rw [bestL_snoc hj.1 hx2]; first | rw [if_pos (show minB x2 (bestL minB (s.take j)) = true from decide_eq_true hc27)] | rw [if_neg (show ¬ minB x2 (bestL minB (s.take j)) = true from fun h => absurd (of_decide_eq_true h) (by omega))]
  try rw [hq9] at K5
  exact Pst.ag ⟨(j + 1), rfl, rfl, by omega, K5⟩ rfl (by omega)
 replace hc17 := of_decide_eq_false hc17
 refine WP.exit (Pst.then_exit (Pst.then_exit (Pst.blk_eq (Pst.norm ?_))))
 refine rg <| ev (Ev.loadBox ag_37 rfl rfl (K4.x s0)) ?_
 refine stw (ds := [.int .i64 ((bestL minB (s.take j)).Node), .int .i64 ((bestL minB (s.take j)).N)]) rfl rfl rfl sz_37 K4 s1 rfl rfl fun w7 K7 => ?_
 refine dn ?_
 refine WP.ret (Pst.retC rfl ⟨_, _, rfl, ⟨_, rfl, loads_box (cs := [.int .i64 ((bestL minB (s.take j)).Node), .int .i64 ((bestL minB (s.take j)).N)]) ag_37 rfl (K7.x s0)⟩, rfl⟩ ?_)
 have hq10 : ((bestL minB (s.take j)) : ALoad) = (bestL minB s) := by rw [List.take_of_length_le (by omega)]
 have hq11 : ((bestL minB (s.take j)).Node : Int) = (bestL minB s).Node := by rw [← hq10]
 have hq12 : ((bestL minB (s.take j)).N : Int) = (bestL minB s).N := by rw [← hq10]
 exact ⟨by rw [hq11, hq12] <;> rfl, ((K7.rm s1).rm s0)⟩

theorem spread_ok {S0 : Nat → Prop} (w : World) {A_chunks : Option Addr} {c_chunks : Nat} {chunks : List AChunk} (h_chunks : Sl tChunk S0 w A_chunks c_chunks chunks) {A_l : Option Addr} {c_l : Nat} {l : List ANode} (h_l : Sl tNode S0 w A_l c_l l) {A_alive : Option Addr} {c_alive : Nat} {alive : List Int} (h_alive : Sl tInt S0 w A_alive c_alive alive) (hn : l.length ≤ 100000) :
    Rets Tryz.prog 13 #[.slice A_chunks chunks.length c_chunks, .slice A_l l.length c_l, .slice A_alive alive.length c_alive] w fun v w' => v = .int .i64 (spreadL chunks l alive) ∧ Hp w S0 w' [] := by
 refine WP.enter Tryz.func13 rfl Tryz.ntmps13 rfl ?_
 have H0 := Hp.init w S0
 have hb_chunks := h_chunks.len_le
 have hb_l := h_l.len_le
 have hb_alive := h_alive.len_le
 refine rg <| as_ rfl <| dn <| rg <| mv rfl <| mv rfl <| mv rfl <| WL.call rfl rfl rfl cl_17 (fit_ok _ (H0.a h_chunks).any (H0.a h_l).any (H0.a h_alive).any (by first | omega | (simp; done) | decide)) rfl ?_
 rintro _ w1 ⟨A0_1, c0_1, A1_1, c1_1, rfl, h1⟩
 have K1 := H0.f2 h1
 have hL1_0 := (K1.o s0).len_le
 have hL1_1 := (K1.o s1).len_le
 refine mv rfl <| xt rfl rfl <| xt rfl rfl <| as_ rfl <| as_ rfl <| dn <| WP.seq <| rg <| mv rfl <| ev (Ev.len Tryz.underlying34 rfl) <| ev (Ev.eql rfl rfl) <| dn ?_
 refine WP.cond_end rfl (fun hc19 => ?_) (fun hc19 => ?_)
 ·
  replace hc19 := of_decide_eq_true hc19
  refine rg <| as_ rfl <| dn ?_
  refine WP.ret (Pst.then_ret (Pst.body_ret rfl rfl rfl ?_))
  have hq1 : (0 : Int) = (spreadL chunks l alive) := by unfold spreadL; rw [if_pos (by omega)]
  exact ⟨by rw [← hq1] <;> rfl, ((K1.rm s1).rm s0)⟩
 replace hc19 := of_decide_eq_false hc19
 refine WP.skip (Pst.norm ?_)
 refine rg <| as_ rfl <| dn ?_
 have hbm := best_N (f := maxB) (cs := chunks) (l := l) (alive := alive) (by omega)
 have hbn := best_N (f := minB) (cs := chunks) (l := l) (alive := alive) (by omega)
 refine rg <| mv rfl <| mv rfl <| WL.call rfl rfl rfl cl_40 (MaxFuncLoad_ok _ (K1.o s1) (by omega)) rfl ?_
 rintro _ w2 ⟨rfl, h2⟩
 have K2 := K1.c0 h2
 refine ev (Ev.fld (cs := [.int .i64 ((bestL maxB (fitLoads chunks l alive)).Node), .int .i64 ((bestL maxB (fitLoads chunks l alive)).N)]) Tryz.underlying37 rfl rfl na_3 rfl rfl) ?_
 refine mv rfl <| mv rfl <| WL.call rfl rfl rfl cl_41 (MinFuncLoad_ok _ (K2.o s1) (by omega)) rfl ?_
 rintro _ w3 ⟨rfl, h3⟩
 have K3 := K2.c0 h3
 refine ev (Ev.fld (cs := [.int .i64 ((bestL minB (fitLoads chunks l alive)).Node), .int .i64 ((bestL minB (fitLoads chunks l alive)).N)]) Tryz.underlying37 rfl rfl na_3 rfl rfl) ?_
 refine ev (Ev.sub rfl rfl (I64.mk (by omega) (by omega))) <| as_ rfl <| dn ?_
 refine WP.ret (Pst.body_ret rfl rfl rfl ?_)
 have hq2 : ((bestL maxB (fitLoads chunks l alive)).N - (bestL minB (fitLoads chunks l alive)).N : Int) = (spreadL chunks l alive) := by unfold spreadL; rw [if_neg (by omega)]
 exact ⟨by rw [hq2] <;> rfl, ((K3.rm s1).rm s0)⟩

end Go.Proofs.YtigmondpokkaoaaGreat
