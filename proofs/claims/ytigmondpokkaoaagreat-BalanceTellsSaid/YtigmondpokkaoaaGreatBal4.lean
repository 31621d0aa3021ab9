/- Contracts of functions: what each call hands back, and that it leaves all that was there as it was. -/
import Derived.Test.YtigmondpokkaoaaGreatBal
set_option maxRecDepth 4000
set_option linter.all false
namespace Go.Proofs.YtigmondpokkaoaaGreat
open Go.RowKit

def orL (l : List Int) : Int := (l.find? (fun (x : Int) => !decide (x = 0))).getD 0
theorem orL_at {l : List Int} {k : Nat} {x : Int} (h : ∀ y ∈ l.take k, y = 0) (hx : l[k]? = some x) (h0 : x ≠ 0) : orL l = x := by
  have hs : l = l.take k ++ x :: l.drop (k + 1) := by
    conv => lhs; rw [← List.take_append_drop k l]
    rw [List.drop_eq_getElem_cons (lt_of_get hx), (List.getElem?_eq_some_iff.1 hx).2]
  unfold orL
  rw [hs, List.find?_append, List.find?_eq_none.2 (fun y hy => by simp [h y hy])]
  simp [h0]
theorem orL_no {l : List Int} (h : ∀ y ∈ l, y = 0) : orL l = 0 := by unfold orL; rw [List.find?_eq_none.2 (fun y hy => by simp [h y hy])]; rfl
def toC (loads : List ALoad) (a b : ANode) : Int := orL [cmpI (plL loads a.ID) (plL loads b.ID), cmpI a.ID b.ID]
def frC (loads : List ALoad) (a b : ANode) : Int := -(toC loads a b)
theorem toC_lt {loads : List ALoad} {a b : ANode} : toC loads a b < 0 ↔ plL loads a.ID < plL loads b.ID ∨ plL loads a.ID = plL loads b.ID ∧ a.ID < b.ID := by
  unfold toC orL
  by_cases h1 : cmpI (plL loads a.ID) (plL loads b.ID) = 0
  · have h2 := cmpI_zero.1 h1
    by_cases h3 : cmpI a.ID b.ID = 0
    · have h4 := cmpI_zero.1 h3
      simp [h1, h3]; omega
    · simp [h1, h3, cmpI_neg]; omega
  · simp [h1, cmpI_neg]
    have h2 : plL loads a.ID ≠ plL loads b.ID := fun e => h1 (cmpI_zero.2 e)
    omega
theorem toC_anti {loads : List ALoad} {a b : ANode} : toC loads b a = -(toC loads a b) := by
  have h : ∀ x y : Int, cmpI y x = -(cmpI x y) := by intro x y; unfold cmpI; split <;> (try split) <;> (try split) <;> omega
  unfold toC orL
  rw [h (plL loads a.ID) (plL loads b.ID), h a.ID b.ID]
  by_cases h1 : cmpI (plL loads a.ID) (plL loads b.ID) = 0
  · by_cases h3 : cmpI a.ID b.ID = 0 <;> simp [h1, h3]
  · simp [h1]
theorem cmpI_bd (x y : Int) : -1 ≤ cmpI x y ∧ cmpI x y ≤ 1 := by unfold cmpI; split <;> (try split) <;> omega
theorem orL_bd (x y : Int) (h1 : -1 ≤ x ∧ x ≤ 1) (h2 : -1 ≤ y ∧ y ≤ 1) : -1 ≤ orL [x, y] ∧ orL [x, y] ≤ 1 := by
  unfold orL
  by_cases a : x = 0
  · by_cases b : y = 0
    · simp [a, b]
    · simp [a, b]; omega
  · simp [a]; omega
open Go.Sort in
theorem swo_to (loads : List ALoad) : SWO (ltOf (toC loads)) := by
  refine ⟨fun x => ?_, fun x y z h1 h2 => ?_, fun x y z h1 h2 => ?_⟩
  · simp only [ltOf, decide_eq_false_iff_not, toC_lt]; omega
  · simp only [ltOf, decide_eq_true_eq, toC_lt] at h1 h2 ⊢; omega
  · simp only [ltOf, decide_eq_false_iff_not, toC_lt] at h1 h2 ⊢; omega
open Go.Sort in
theorem swo_fr (loads : List ALoad) : SWO (ltOf (frC loads)) := by
  have e : ∀ a b, frC loads a b = toC loads b a := fun a b => toC_anti.symm
  refine ⟨fun x => ?_, fun x y z h1 h2 => ?_, fun x y z h1 h2 => ?_⟩
  · simp only [ltOf, decide_eq_false_iff_not, e, toC_lt]; omega
  · simp only [ltOf, decide_eq_true_eq, e, toC_lt] at h1 h2 ⊢; omega
  · simp only [ltOf, decide_eq_false_iff_not, e, toC_lt] at h1 h2 ⊢; omega
theorem node_inj {l : List ANode} (hu : Up ANode.ID l) {x y : ANode} (hx : x ∈ l) (hy : y ∈ l) (h : x.ID = y.ID) : x = y := by
  obtain ⟨i, hi⟩ := List.getElem?_of_mem hx
  obtain ⟨j, hj⟩ := List.getElem?_of_mem hy
  rcases Nat.lt_trichotomy i j with h1 | h1 | h1
  · have := hu.get h1 hi hj; omega
  · subst h1; rw [hi] at hj; cases hj; rfl
  · have := hu.get h1 hj hi; omega
theorem to_uniq {loads : List ALoad} {l : List ANode} (hu : Up ANode.ID l) : ∀ x ∈ l, ∀ y ∈ l, ¬ toC loads x y < 0 → ¬ toC loads y x < 0 → x = y := by
  intro x hx y hy h1 h2
  rw [toC_lt] at h1 h2
  exact node_inj hu hx hy (by omega)
theorem fr_uniq {loads : List ALoad} {l : List ANode} (hu : Up ANode.ID l) : ∀ x ∈ l, ∀ y ∈ l, ¬ frC loads x y < 0 → ¬ frC loads y x < 0 → x = y := by
  intro x hx y hy h1 h2
  have e : ∀ a b, frC loads a b = toC loads b a := fun a b => toC_anti.symm
  rw [e, toC_lt] at h1 h2
  exact node_inj hu hx hy (by omega)
instance : Inhabited ANode := ⟨⟨0, 0, 0, 0⟩⟩
def ordL (cf : ANode → ANode → Int) (l : List ANode) : List ANode := l.mergeSort fun x y => !decide (cf y x < 0)
def pairsL (xs ys : List ANode) : List (ANode × ANode) := xs.flatMap fun x => ys.map fun y => (x, y)
theorem pairs_pre {xs ys : List ANode} {k j : Nat} {x y : ANode} (hx : xs[k]? = some x) (hy : ys[j]? = some y) : pairsL (xs.take k) ys ++ (ys.take j).map (fun y => (x, y)) ++ [(x, y)] <+: pairsL xs ys := by
  have hs : xs = xs.take k ++ x :: xs.drop (k + 1) := by
    conv => lhs; rw [← List.take_append_drop k xs]
    rw [List.drop_eq_getElem_cons (lt_of_get hx), (List.getElem?_eq_some_iff.1 hx).2]
  have ht : ys = ys.take j ++ y :: ys.drop (j + 1) := by
    conv => lhs; rw [← List.take_append_drop j ys]
    rw [List.drop_eq_getElem_cons (lt_of_get hy), (List.getElem?_eq_some_iff.1 hy).2]
  refine ⟨(ys.drop (j + 1)).map (fun y => (x, y)) ++ pairsL (xs.drop (k + 1)) ys, ?_⟩
  have h1 : pairsL xs ys = pairsL (xs.take k) ys ++ (ys.map (fun y => (x, y)) ++ pairsL (xs.drop (k + 1)) ys) := by
    conv => lhs; rw [hs]
    simp [pairsL]
  have h2 : ys.map (fun y => (x, y)) = (ys.take j).map (fun y => (x, y)) ++ (x, y) :: (ys.drop (j + 1)).map (fun y => (x, y)) := by
    conv => lhs; rw [ht]
    simp
  rw [h1, h2]; simp
theorem pairs_snoc {xs ys : List ANode} {k : Nat} {x : ANode} (hx : xs[k]? = some x) : pairsL (xs.take (k + 1)) ys = pairsL (xs.take k) ys ++ ys.map (fun y => (x, y)) := by
  rw [take_snoc hx]; simp [pairsL]

theorem na_34 : NotAgg Tryz.prog 34 := fun _ => by kernel_rfl
theorem cl_19 : Callable Tryz.prog 19 := fun _ _ => by kernel_rfl
theorem bs_24_2_II (a0 : Int) (a1 : Int) : ∀ w, (Instr.buildSlice 24 2 (List.toArray [(0, .int .i64 a0), (1, .int .i64 a1)])).run Tryz.prog w = .ok (.slice (some ⟨w.heap.size, 0, none⟩) 2 2) (w.alloc (.cells (List.toArray [.int .i64 a0, .int .i64 a1]) 3)) := fun _ => by kernel_rfl
theorem cl_48 : Callable Tryz.prog 48 := fun _ _ => by kernel_rfl
theorem zero_23 : ∀ w, (zeroValue 23).run Tryz.prog w = .ok (.slice none 0 0) w := fun _ => by kernel_rfl
theorem sz_23 : Size Tryz.prog 23 1 := fun _ => by kernel_rfl
theorem na_23 : NotAgg Tryz.prog 23 := fun _ => by kernel_rfl
theorem cl_46 : Callable Tryz.prog 46 := fun _ _ => by kernel_rfl
theorem cl_47 : Callable Tryz.prog 47 := fun _ _ => by kernel_rfl
theorem cl_49 : Callable Tryz.prog 49 := fun _ _ => by kernel_rfl
theorem Or_ok {S0 : Nat → Prop} (w : World) {A_vals : Option Addr} {c_vals : Nat} {vals : List Int} (h_vals : Sl tInt S0 w A_vals c_vals vals) :
    Rets Tryz.prog 48 #[.slice A_vals vals.length c_vals] w fun v w' => v = .int .i64 (orL vals) ∧ Hp w S0 w' [] := by
 refine WP.enter Tryz.func48 rfl Tryz.ntmps48 rfl ?_
 have H0 := Hp.init w S0
 have hb_vals := h_vals.len_le
 refine rg <| as_ rfl <| dn <| rg <| as_ rfl <| dn <| WP.seq <| rg <| mv rfl <| ev (Ev.len Tryz.underlying24 rfl) <| mv rfl <| dn <| WP.block ?_
 have hq1 : (0 : Int) = ((0 : Nat) : Int) := by simp
 refine WP.re (t := 8) rfl (congrArg (Value.int .i64) hq1) <| WP.lp (fun mJ lJ wJ => ∃ (k : Nat), lJ = [(3, .int .i64 0), (6, .slice A_vals vals.length c_vals), (7, .int .i64 ((vals.length : Nat) : Int)), (8, .int .i64 ((k : Nat) : Int))] ∧ mJ = vals.length - k ∧ k ≤ vals.length ∧ (∀ y ∈ vals.take k, y = 0) ∧ Hp w S0 wJ []) ⟨0, rfl, rfl, Nat.zero_le _, by simp, H0⟩ rfl ?_
 rintro _ _ w1 ⟨k, rfl, rfl, hk, hno, K1⟩
 refine rg <| ev (Ev.lss rfl rfl) <| dn ?_
 refine WP.cond rfl (fun hc9 => ?_) (fun hc9 => ?_)
 ·
  replace hc9 := of_decide_eq_true hc9
  refine WP.skip (Pst.norm ?_)
  refine WP.seq <| WP.block <| rg ?_
  obtain ⟨x1, hx1⟩ := get_some (xs := vals) (i := k) (by omega)
  refine ev (Ev.index (i := k) Tryz.underlying24 sz_3 rfl rfl rfl (lt_of_get hx1) ((K1.a h_vals).some_ hx1)) <| ev (Ev.loadCell na_3 rfl ((K1.a h_vals).flat_cell (j := 0) hx1 rfl)) ?_
  refine as_ rfl <| dn <| rg <| mv rfl <| mv rfl <| ev (Ev.neq rfl rfl) <| dn ?_
  refine WP.cond_end rfl (fun hc14 => ?_) (fun hc14 => ?_)
  ·
   replace hc14 := not_dec_t hc14
   refine rg <| mv rfl <| as_ rfl <| dn ?_
   refine WP.ret (Pst.blk_ret (Pst.then_ret (Pst.then_ret (Pst.blk_ret (Pst.then_ret (Pst.body_ret rfl rfl rfl ?_))))))
   have hq2 : (x1 : Int) = (orL vals) := by exact (orL_at hno hx1 (by omega)).symm
   exact ⟨by rw [← hq2] <;> rfl, K1⟩
  replace hc14 := not_dec_f hc14
  refine WP.skip (Pst.blk_norm (Pst.norm ?_))
  refine rge <| ev (Ev.add rfl rfl (I64.mk (by omega) (by omega))) <| mv rfl <| dne ?_
  have hq3 : (((k + 1 : Nat) : Int) : Int) = (((k + 1) : Nat) : Int) := by simp
  refine Pst.re (t := 8) rfl (congrArg (Value.int .i64) hq3) ?_
  exact Pst.ag ⟨(k + 1), rfl, rfl, by omega, by exact all_snoc (q := fun y => y = 0) hno hx1 (by omega), K1⟩ rfl (by omega)
 replace hc9 := of_decide_eq_false hc9
 refine WP.exit (Pst.then_exit (Pst.then_exit (Pst.blk_eq (Pst.norm ?_))))
 refine rg <| mv rfl <| as_ rfl <| dn ?_
 refine WP.ret (Pst.body_ret rfl rfl rfl ?_)
 have hq4 : (0 : Int) = (orL vals) := by exact (orL_no (all_take hno (by omega))).symm
 exact ⟨by rw [← hq4] <;> rfl, K1⟩

theorem pairs1_ok {S0 : Nat → Prop} (w : World) (a : ANode) (b : ANode) {g_loads : Nat} {A_loads : Option Addr} {c_loads : Nat} {loads : List ALoad} (h_loads : Bx w g_loads 34 [.slice A_loads loads.length c_loads]) (k_loads : Sl tLoad S0 w A_loads c_loads loads) :
    Rets Tryz.prog 47 #[.agg #[.int .i64 a.ID, .int .i64 a.Rack, .int .i64 a.Room, .int .i64 a.State], .agg #[.int .i64 b.ID, .int .i64 b.Rack, .int .i64 b.Room, .int .i64 b.State], .pointer (some ⟨g_loads, 0, none⟩)] w fun v w' => v = .int .i64 (frC loads a b) ∧ Hp w S0 w' [] := by
 refine WP.enter Tryz.func47 rfl Tryz.ntmps47 rfl ?_
 have H0 := Hp.init w S0
 have hb_loads := k_loads.len_le
 have hbd := orL_bd (cmpI (plL loads a.ID) (plL loads b.ID)) (cmpI a.ID b.ID) (cmpI_bd _ _) (cmpI_bd _ _)
 refine rg ?_
 refine bx (cs := [.int .i64 a.ID, .int .i64 a.Rack, .int .i64 a.Room, .int .i64 a.State]) rfl rfl H0 fun g1 w1 K1 => ?_
 refine bx (cs := [.int .i64 b.ID, .int .i64 b.Rack, .int .i64 b.Room, .int .i64 b.State]) rfl rfl K1 fun g2 w2 K2 => ?_
 refine as_ rfl <| dn ?_
 refine WP.held (fun wS => Hp w S0 wS [rBx g2 41 [.int .i64 b.ID, .int .i64 b.Rack, .int .i64 b.Room, .int .i64 b.State], rBx g1 41 [.int .i64 a.ID, .int .i64 a.Rack, .int .i64 a.Room, .int .i64 a.State]]) (fun lJ wJ => lJ = [(5, .int .i64 (-(orL ([cmpI (plL loads a.ID) (plL loads b.ID), cmpI a.ID b.ID] : List Int))))] ∧ Hp w S0 wJ [rBx g2 41 [.int .i64 b.ID, .int .i64 b.Rack, .int .i64 b.Room, .int .i64 b.State], rBx g1 41 [.int .i64 a.ID, .int .i64 a.Rack, .int .i64 a.Room, .int .i64 a.State]]) (by kernel_rfl) ?_ ?_
 ·
  have H1 := K2.grow (Ext.refl w2).drew
  refine WH.ns (by kernel_rfl) fun hns => ?_
  refine WH.tn (fuel := 17) 0 #[true, false, false, false, false, false, false, false, false, false, false, false, false, false, false, false, false, false] hns rfl (by kernel_rfl) (fun _ hK => (Ev.loadBoxCell na_34 rfl (h_loads.ext hK.ext) rfl)) rfl H1 ?_
  refine WH.tn (fuel := 16) 1 #[true, true, false, false, false, false, false, false, false, false, false, false, false, false, false, false, false, false] hns rfl (by kernel_rfl) (fun _ hK => (Ev.field (q := ⟨g1, 0, none⟩) fa_41_0 rfl rfl)) rfl H1 ?_
  refine WH.tn (fuel := 15) 2 #[true, true, true, false, false, false, false, false, false, false, false, false, false, false, false, false, false, false] hns rfl (by kernel_rfl) (fun _ hK => (Ev.loadBoxCell na_3 rfl (hK.x s1) rfl)) rfl H1 ?_
  refine WH.tn (fuel := 14) 4 #[true, true, true, false, true, false, false, false, false, false, false, false, false, false, false, false, false, false] hns rfl (by kernel_rfl) (fun _ hK => (Ev.loadBoxCell na_34 rfl (h_loads.ext hK.ext) rfl)) rfl H1 ?_
  refine WH.tn (fuel := 13) 5 #[true, true, true, false, true, true, false, false, false, false, false, false, false, false, false, false, false, false] hns rfl (by kernel_rfl) (fun _ hK => (Ev.field (q := ⟨g2, 0, none⟩) fa_41_0 rfl rfl)) rfl H1 ?_
  refine WH.tn (fuel := 12) 6 #[true, true, true, false, true, true, true, false, false, false, false, false, false, false, false, false, false, false] hns rfl (by kernel_rfl) (fun _ hK => (Ev.loadBoxCell na_3 rfl (hK.x s0) rfl)) rfl H1 ?_
  refine WH.tn (fuel := 11) 9 #[true, true, true, false, true, true, true, false, false, true, false, false, false, false, false, false, false, false] hns rfl (by kernel_rfl) (fun _ hK => (Ev.field (q := ⟨g1, 0, none⟩) fa_41_0 rfl rfl)) rfl H1 ?_
  refine WH.tn (fuel := 10) 10 #[true, true, true, false, true, true, true, false, false, true, true, false, false, false, false, false, false, false] hns rfl (by kernel_rfl) (fun _ hK => (Ev.loadBoxCell na_3 rfl (hK.x s1) rfl)) rfl H1 ?_
  refine WH.tn (fuel := 9) 11 #[true, true, true, false, true, true, true, false, false, true, true, true, false, false, false, false, false, false] hns rfl (by kernel_rfl) (fun _ hK => (Ev.field (q := ⟨g2, 0, none⟩) fa_41_0 rfl rfl)) rfl H1 ?_
  refine WH.tn (fuel := 8) 12 #[true, true, true, false, true, true, true, false, false, true, true, true, true, false, false, false, false, false] hns rfl (by kernel_rfl) (fun _ hK => (Ev.loadBoxCell na_3 rfl (hK.x s0) rfl)) rfl H1 ?_
  refine WH.all (fuel := 7) (rs := [3]) (by kernel_rfl) (by decide) ?_
  simp only [List.forall_mem_cons, List.not_mem_nil, false_implies, implies_true, and_true]
  refine ⟨_, rfl, ?_⟩
  refine WL.call rfl rfl rfl cl_19 (pload_ok _ (H1.a k_loads).any a.ID) rfl ?_
  rintro _ w3 ⟨rfl, h3⟩
  have K3 := H1.c0 h3
  refine WH.next K3 <| WH.all (fuel := 6) (rs := [7]) (by kernel_rfl) (by decide) ?_
  simp only [List.forall_mem_cons, List.not_mem_nil, false_implies, implies_true, and_true]
  refine ⟨_, rfl, ?_⟩
  refine WL.call rfl rfl rfl cl_19 (pload_ok _ (K3.a k_loads).any b.ID) rfl ?_
  rintro _ w4 ⟨rfl, h4⟩
  have K4 := K3.c0 h4
  refine WH.next K4 <| WH.all (fuel := 5) (rs := [8]) (by kernel_rfl) (by decide) ?_
  simp only [List.forall_mem_cons, List.not_mem_nil, false_implies, implies_true, and_true]
  refine ⟨_, rfl, ?_⟩
  refine WL.call rfl rfl rfl cl_39 (Compare_ok (S0 := Any) _ (plL loads a.ID) (plL loads b.ID)) rfl ?_
  rintro _ w5 ⟨rfl, h5⟩
  have K5 := K4.c0 h5
  refine WH.next K5 <| WH.all (fuel := 4) (rs := [13]) (by kernel_rfl) (by decide) ?_
  simp only [List.forall_mem_cons, List.not_mem_nil, false_implies, implies_true, and_true]
  refine ⟨_, rfl, ?_⟩
  refine WL.call rfl rfl rfl cl_39 (Compare_ok (S0 := Any) _ a.ID b.ID) rfl ?_
  rintro _ w6 ⟨rfl, h6⟩
  have K6 := K5.c0 h6
  refine WH.next K6 <| WH.all (fuel := 3) (rs := [14]) (by kernel_rfl) (by decide) ?_
  simp only [List.forall_mem_cons, List.not_mem_nil, false_implies, implies_true, and_true]
  refine ⟨_, rfl, ?_⟩
  refine bsn (τ := tInt) (xs := ([cmpI (plL loads a.ID) (plL loads b.ID), cmpI a.ID b.ID] : List Int)) (vs := [(0, .int .i64 (cmpI (plL loads a.ID) (plL loads b.ID))), (1, .int .i64 (cmpI a.ID b.ID))]) (css := [[.int .i64 (cmpI (plL loads a.ID) (plL loads b.ID))], [.int .i64 (cmpI a.ID b.ID)]]) rfl (by intro _; apply bs_24_2_II) rfl rfl K6 (fun _ e => ⟨rfl, rfl, trivial⟩) fun g3 w7 K7 => ?_
  refine WH.next (K7.rm s0) <| WH.all (fuel := 2) (rs := [15]) (by kernel_rfl) (by decide) ?_
  simp only [List.forall_mem_cons, List.not_mem_nil, false_implies, implies_true, and_true]
  refine ⟨_, rfl, ?_⟩
  refine WL.call rfl rfl rfl cl_48 (Or_ok _ (K7.o s0)) rfl ?_
  rintro _ w8 ⟨rfl, h8⟩
  have K8 := K7.c0 h8
  refine WH.next (K8.rm s0) <| WH.tn (fuel := 1) 16 #[true, true, true, true, true, true, true, true, true, true, true, true, true, true, true, true, true, false] hns rfl (by kernel_rfl) (fun _ hK => (Ev.neg rfl (I64.mk (by omega) (by omega)))) rfl (K8.rm s0) ?_
  refine WH.tn (fuel := 0) 17 #[true, true, true, true, true, true, true, true, true, true, true, true, true, true, true, true, true, true] hns rfl (by kernel_rfl) (fun _ hK => (Ev.assign rfl)) rfl (K8.rm s0) ?_
  exact WH.dn ⟨rfl, (K8.rm s0)⟩ rfl (by kernel_rfl)
 rintro _ w9 ⟨rfl, K9⟩
 refine WP.ret (Pst.body_ret rfl rfl rfl ?_)
 have hq1 : (-(orL ([cmpI (plL loads a.ID) (plL loads b.ID), cmpI a.ID b.ID] : List Int)) : Int) = (frC loads a b) := by rfl
 exact ⟨by rw [hq1] <;> rfl, ((K9.rm s1).rm s0)⟩

theorem pairs2_ok {S0 : Nat → Prop} (w : World) (a : ANode) (b : ANode) {g_loads : Nat} {A_loads : Option Addr} {c_loads : Nat} {loads : List ALoad} (h_loads : Bx w g_loads 34 [.slice A_loads loads.length c_loads]) (k_loads : Sl tLoad S0 w A_loads c_loads loads) :
    Rets Tryz.prog 49 #[.agg #[.int .i64 a.ID, .int .i64 a.Rack, .int .i64 a.Room, .int .i64 a.State], .agg #[.int .i64 b.ID, .int .i64 b.Rack, .int .i64 b.Room, .int .i64 b.State], .pointer (some ⟨g_loads, 0, none⟩)] w fun v w' => v = .int .i64 (toC loads a b) ∧ Hp w S0 w' [] := by
 refine WP.enter Tryz.func49 rfl Tryz.ntmps49 rfl ?_
 have H0 := Hp.init w S0
 have hb_loads := k_loads.len_le
 refine rg ?_
 refine bx (cs := [.int .i64 a.ID, .int .i64 a.Rack, .int .i64 a.Room, .int .i64 a.State]) rfl rfl H0 fun g1 w1 K1 => ?_
 refine bx (cs := [.int .i64 b.ID, .int .i64 b.Rack, .int .i64 b.Room, .int .i64 b.State]) rfl rfl K1 fun g2 w2 K2 => ?_
 refine as_ rfl <| dn ?_
 refine WP.held (fun wS => Hp w S0 wS [rBx g2 41 [.int .i64 b.ID, .int .i64 b.Rack, .int .i64 b.Room, .int .i64 b.State], rBx g1 41 [.int .i64 a.ID, .int .i64 a.Rack, .int .i64 a.Room, .int .i64 a.State]]) (fun lJ wJ => lJ = [(5, .int .i64 (orL ([cmpI (plL loads a.ID) (plL loads b.ID), cmpI a.ID b.ID] : List Int)))] ∧ Hp w S0 wJ [rBx g2 41 [.int .i64 b.ID, .int .i64 b.Rack, .int .i64 b.Room, .int .i64 b.State], rBx g1 41 [.int .i64 a.ID, .int .i64 a.Rack, .int .i64 a.Room, .int .i64 a.State]]) (by kernel_rfl) ?_ ?_
 ·
  have H1 := K2.grow (Ext.refl w2).drew
  refine WH.ns (by kernel_rfl) fun hns => ?_
  refine WH.tn (fuel := 16) 0 #[true, false, false, false, false, false, false, false, false, false, false, false, false, false, false, false, false] hns rfl (by kernel_rfl) (fun _ hK => (Ev.loadBoxCell na_34 rfl (h_loads.ext hK.ext) rfl)) rfl H1 ?_
  refine WH.tn (fuel := 15) 1 #[true, true, false, false, false, false, false, false, false, false, false, false, false, false, false, false, false] hns rfl (by kernel_rfl) (fun _ hK => (Ev.field (q := ⟨g1, 0, none⟩) fa_41_0 rfl rfl)) rfl H1 ?_
  refine WH.tn (fuel := 14) 2 #[true, true, true, false, false, false, false, false, false, false, false, false, false, false, false, false, false] hns rfl (by kernel_rfl) (fun _ hK => (Ev.loadBoxCell na_3 rfl (hK.x s1) rfl)) rfl H1 ?_
  refine WH.tn (fuel := 13) 4 #[true, true, true, false, true, false, false, false, false, false, false, false, false, false, false, false, false] hns rfl (by kernel_rfl) (fun _ hK => (Ev.loadBoxCell na_34 rfl (h_loads.ext hK.ext) rfl)) rfl H1 ?_
  refine WH.tn (fuel := 12) 5 #[true, true, true, false, true, true, false, false, false, false, false, false, false, false, false, false, false] hns rfl (by kernel_rfl) (fun _ hK => (Ev.field (q := ⟨g2, 0, none⟩) fa_41_0 rfl rfl)) rfl H1 ?_
  refine WH.tn (fuel := 11) 6 #[true, true, true, false, true, true, true, false, false, false, false, false, false, false, false, false, false] hns rfl (by kernel_rfl) (fun _ hK => (Ev.loadBoxCell na_3 rfl (hK.x s0) rfl)) rfl H1 ?_
  refine WH.tn (fuel := 10) 9 #[true, true, true, false, true, true, true, false, false, true, false, false, false, false, false, false, false] hns rfl (by kernel_rfl) (fun _ hK => (Ev.field (q := ⟨g1, 0, none⟩) fa_41_0 rfl rfl)) rfl H1 ?_
  refine WH.tn (fuel := 9) 10 #[true, true, true, false, true, true, true, false, false, true, true, false, false, false, false, false, false] hns rfl (by kernel_rfl) (fun _ hK => (Ev.loadBoxCell na_3 rfl (hK.x s1) rfl)) rfl H1 ?_
  refine WH.tn (fuel := 8) 11 #[true, true, true, false, true, true, true, false, false, true, true, true, false, false, false, false, false] hns rfl (by kernel_rfl) (fun _ hK => (Ev.field (q := ⟨g2, 0, none⟩) fa_41_0 rfl rfl)) rfl H1 ?_
  refine WH.tn (fuel := 7) 12 #[true, true, true, false, true, true, true, false, false, true, true, true, true, false, false, false, false] hns rfl (by kernel_rfl) (fun _ hK => (Ev.loadBoxCell na_3 rfl (hK.x s0) rfl)) rfl H1 ?_
  refine WH.all (fuel := 6) (rs := [3]) (by kernel_rfl) (by decide) ?_
  simp only [List.forall_mem_cons, List.not_mem_nil, false_implies, implies_true, and_true]
  refine ⟨_, rfl, ?_⟩
  refine WL.call rfl rfl rfl cl_19 (pload_ok _ (H1.a k_loads).any a.ID) rfl ?_
  rintro _ w3 ⟨rfl, h3⟩
  have K3 := H1.c0 h3
  refine WH.next K3 <| WH.all (fuel := 5) (rs := [7]) (by kernel_rfl) (by decide) ?_
  simp only [List.forall_mem_cons, List.not_mem_nil, false_implies, implies_true, and_true]
  refine ⟨_, rfl, ?_⟩
  refine WL.call rfl rfl rfl cl_19 (pload_ok _ (K3.a k_loads).any b.ID) rfl ?_
  rintro _ w4 ⟨rfl, h4⟩
  have K4 := K3.c0 h4
  refine WH.next K4 <| WH.all (fuel := 4) (rs := [8]) (by kernel_rfl) (by decide) ?_
  simp only [List.forall_mem_cons, List.not_mem_nil, false_implies, implies_true, and_true]
  refine ⟨_, rfl, ?_⟩
  refine WL.call rfl rfl rfl cl_39 (Compare_ok (S0 := Any) _ (plL loads a.ID) (plL loads b.ID)) rfl ?_
  rintro _ w5 ⟨rfl, h5⟩
  have K5 := K4.c0 h5
  refine WH.next K5 <| WH.all (fuel := 3) (rs := [13]) (by kernel_rfl) (by decide) ?_
  simp only [List.forall_mem_cons, List.not_mem_nil, false_implies, implies_true, and_true]
  refine ⟨_, rfl, ?_⟩
  refine WL.call rfl rfl rfl cl_39 (Compare_ok (S0 := Any) _ a.ID b.ID) rfl ?_
  rintro _ w6 ⟨rfl, h6⟩
  have K6 := K5.c0 h6
  refine WH.next K6 <| WH.all (fuel := 2) (rs := [14]) (by kernel_rfl) (by decide) ?_
  simp only [List.forall_mem_cons, List.not_mem_nil, false_implies, implies_true, and_true]
  refine ⟨_, rfl, ?_⟩
  refine bsn (τ := tInt) (xs := ([cmpI (plL loads a.ID) (plL loads b.ID), cmpI a.ID b.ID] : List Int)) (vs := [(0, .int .i64 (cmpI (plL loads a.ID) (plL loads b.ID))), (1, .int .i64 (cmpI a.ID b.ID))]) (css := [[.int .i64 (cmpI (plL loads a.ID) (plL loads b.ID))], [.int .i64 (cmpI a.ID b.ID)]]) rfl (by intro _; apply bs_24_2_II) rfl rfl K6 (fun _ e => ⟨rfl, rfl, trivial⟩) fun g3 w7 K7 => ?_
  refine WH.next (K7.rm s0) <| WH.all (fuel := 1) (rs := [15]) (by kernel_rfl) (by decide) ?_
  simp only [List.forall_mem_cons, List.not_mem_nil, false_implies, implies_true, and_true]
  refine ⟨_, rfl, ?_⟩
  refine WL.call rfl rfl rfl cl_48 (Or_ok _ (K7.o s0)) rfl ?_
  rintro _ w8 ⟨rfl, h8⟩
  have K8 := K7.c0 h8
  refine WH.next (K8.rm s0) <| WH.tn (fuel := 0) 16 #[true, true, true, true, true, true, true, true, true, true, true, true, true, true, true, true, true] hns rfl (by kernel_rfl) (fun _ hK => (Ev.assign rfl)) rfl (K8.rm s0) ?_
  exact WH.dn ⟨rfl, (K8.rm s0)⟩ rfl (by kernel_rfl)
 rintro _ w9 ⟨rfl, K9⟩
 refine WP.ret (Pst.body_ret rfl rfl rfl ?_)
 have hq1 : (orL ([cmpI (plL loads a.ID) (plL loads b.ID), cmpI a.ID b.ID] : List Int) : Int) = (toC loads a b) := by rfl
 exact ⟨by rw [hq1] <;> rfl, ((K9.rm s1).rm s0)⟩

theorem pairs_ok {S0 : Nat → Prop} (w : World) {A_l : Option Addr} {c_l : Nat} {l : List ANode} (h_l : Sl tNode S0 w A_l c_l l) {A_loads : Option Addr} {c_loads : Nat} {loads : List ALoad} (h_loads : Sl tLoad S0 w A_loads c_loads loads) (hn : l.length ≤ 100000) (hu : Up ANode.ID l) :
    Rets Tryz.prog 18 #[.slice A_l l.length c_l, .slice A_loads loads.length c_loads] w fun v w' => ∃ (g0_0 : Nat) (A0_0 : Option Addr) (c0_0 : Nat) (g0_1 : Nat) (A0_1 : Option Addr) (c0_1 : Nat), v = .func (.func 50) #[] #[.pointer (some ⟨g0_0, 0, none⟩), .pointer (some ⟨g0_1, 0, none⟩)] ∧ Hp w S0 w' [rBx g0_0 23 [.slice A0_0 ((ordL (frC loads) l).length) c0_0], rBx g0_1 23 [.slice A0_1 ((ordL (toC loads) l).length) c0_1], rOwn tNode 41 A0_0 c0_0 (ordL (frC loads) l), rOwn tNode 41 A0_1 c0_1 (ordL (toC loads) l)] := by
 refine WP.enter Tryz.func18 rfl Tryz.ntmps18 rfl ?_
 have H0 := Hp.init w S0
 have hb_l := h_l.len_le
 have hb_loads := h_loads.len_le
 refine rg ?_
 refine bx (cs := [.slice A_loads loads.length c_loads]) rfl rfl H0 fun g1 w1 K1 => ?_
 refine as_ rfl <| dn <| rg <| mv rfl <| WL.call rfl rfl rfl cl_45 (CloneNode_ok _ (K1.a h_l).any (by first | omega | (simp; done) | decide)) rfl ?_
 rintro _ w2 ⟨A0_2, c0_2, rfl, h2⟩
 have K2 := K1.f1 h2
 refine mv rfl <| WL.call rfl rfl rfl cl_45 (CloneNode_ok _ (K2.a h_l).any (by first | omega | (simp; done) | decide)) rfl ?_
 rintro _ w3 ⟨A0_3, c0_3, rfl, h3⟩
 have K3 := K2.f1 h3
 refine al (cs := [.slice none 0 0]) zero_23 rfl K3 fun g2 w4 K4 => ?_
 refine al (cs := [.slice none 0 0]) zero_23 rfl K4 fun g3 w5 K5 => ?_
 refine stc rfl rfl rfl sz_23 K5 s1 rfl fun w6 K6 => ?_
 refine stc rfl rfl rfl sz_23 K6 s1 rfl fun w7 K7 => ?_
 refine dn <| rg <| ev (Ev.loadBoxCell na_23 rfl (K7.x s1) rfl) <| ev (Ev.func rfl) <| WL.call rfl rfl rfl cl_46 (sortU Tryz.laysF6 ag_41.1 sz_41 (cf := (frC loads)) (swo_fr loads) (cb := [.pointer (some ⟨g1, 0, none⟩)]) (K7.sel s3) cl_47 (by omega) (fr_uniq hu) (fun w9 ys hl9 K9 x9 y9 => (pairs1_ok (S0 := Any) w9 x9 y9 (K9.x s4) (K9.a h_loads).any).mono (by rintro _ w8 ⟨rfl, K8⟩; exact ⟨rfl, K8.ext⟩))) rfl ?_
 rintro _ w8 ⟨rfl, K8⟩
 refine dn <| rg <| ev (Ev.loadBoxCell na_23 rfl (K8.x s1) rfl) <| ev (Ev.func rfl) <| WL.call rfl rfl rfl cl_46 (sortU Tryz.laysF6 ag_41.1 sz_41 (cf := (toC loads)) (swo_to loads) (cb := [.pointer (some ⟨g1, 0, none⟩)]) (K8.sel s3) cl_49 (by omega) (to_uniq hu) (fun w9 ys hl9 K9 x9 y9 => (pairs2_ok (S0 := Any) w9 x9 y9 (K9.x s4) (K9.a h_loads).any).mono (by rintro _ w8 ⟨rfl, K8⟩; exact ⟨rfl, K8.ext⟩))) rfl ?_
 rintro _ w9 ⟨rfl, K9⟩
 refine dn <| rg <| ev (Ev.func rfl) <| as_ rfl <| dn ?_
 refine WP.ret (Pst.body_ret rfl rfl rfl ?_)
 have hl1 : (ordL (frC loads) l).length = l.length := List.length_mergeSort _
 have hl2 : (ordL (toC loads) l).length = l.length := List.length_mergeSort _
 have H1 : Hp w S0 w9 [rOwn tNode 41 A0_3 c0_3 (ordL (toC loads) l), rOwn tNode 41 A0_2 c0_2 (ordL (frC loads) l), rBx g3 23 [.slice A0_3 ((ordL (toC loads) l).length) c0_3], rBx g2 23 [.slice A0_2 ((ordL (frC loads) l).length) c0_2], rBx g1 34 [.slice A_loads loads.length c_loads]] := by rw [hl1, hl2]; exact K9
 exact ⟨g2, A0_2, c0_2, g3, A0_3, c0_3, rfl, (((((H1.rm s4).sel s0).sel s1).sel s2).sel s3)⟩

theorem pairs3_iter {b : World} {S : Nat → Prop} {gp1 gp2 : Nat} {A_1 A_2 : Option Addr} {c_1 c_2 : Nat} {xs ys : List ANode} (hn1 : xs.length ≤ 1000000) (hn2 : ys.length ≤ 1000000) :
    Iter Tryz.prog 50 [.pointer (some ⟨gp1, 0, none⟩), .pointer (some ⟨gp2, 0, none⟩)] (fun (x : ANode × ANode) => [.agg #[.int .i64 x.1.ID, .int .i64 x.1.Rack, .int .i64 x.1.Room, .int .i64 x.1.State], .agg #[.int .i64 x.2.ID, .int .i64 x.2.Rack, .int .i64 x.2.Room, .int .i64 x.2.State]]) (pairsL xs ys) b S [rBx gp1 23 [.slice A_1 xs.length c_1], rBx gp2 23 [.slice A_2 ys.length c_2], rOwn tNode 41 A_1 c_1 xs, rOwn tNode 41 A_2 c_2 ys] := by
 intro lr Jf Jx w F0 H0 h0 hY
 refine WP.enterI Tryz.func50 rfl Tryz.ntmps50 rfl ?_
 have K0 := Hp.comm (F := F0) H0
 refine rg <| ev (Ev.loadBoxCell na_23 rfl (K0.x s0) rfl) <| ev (Ev.len Tryz.underlying23 rfl) <| mv rfl <| dn <| WP.block ?_
 have hq1 : (0 : Int) = ((0 : Nat) : Int) := by simp
 refine WP.re (t := 10) rfl (congrArg (Value.int .i64) hq1) <| WP.lp (fun mJ lJ wJ => ∃ (k : Nat) (F : List Res), lJ = [(0, .func (.yield lr) #[] #[]), (2, .pointer (some ⟨gp2, 0, none⟩)), (8, .slice A_1 xs.length c_1), (9, .int .i64 ((xs.length : Nat) : Int)), (10, .int .i64 ((k : Nat) : Int))] ∧ mJ = xs.length - k ∧ k ≤ xs.length ∧ (Jf (pairsL (xs.take k) ys) F) ∧ Hp b S wJ (rBx gp1 23 [.slice A_1 xs.length c_1] :: rBx gp2 23 [.slice A_2 ys.length c_2] :: rOwn tNode 41 A_1 c_1 xs :: rOwn tNode 41 A_2 c_2 ys :: F)) ⟨0, F0, rfl, rfl, Nat.zero_le _, by simpa [pairsL] using h0, K0⟩ rfl ?_
 rintro _ _ w1 ⟨k, F, rfl, rfl, hk, hJt, K1⟩
 refine rg <| ev (Ev.lss rfl rfl) <| dn ?_
 refine WP.cond rfl (fun hc11 => ?_) (fun hc11 => ?_)
 ·
  replace hc11 := of_decide_eq_true hc11
  refine WP.skip (Pst.norm ?_)
  refine WP.seq <| WP.block <| rg ?_
  obtain ⟨x1, hx1⟩ := get_some (xs := xs) (i := k) (by omega)
  refine ev (Ev.index (i := k) Tryz.underlying23 sz_41 rfl rfl rfl (lt_of_get hx1) ((K1.o s2).some_ hx1)) <| ev (Ev.loadRow ag_41 rfl rfl ((K1.o s2).flat_row hx1)) ?_
  refine al (cs := [.int .i64 0, .int .i64 0, .int .i64 0, .int .i64 0]) zero_41 rfl K1 fun g1 w2 K2 => ?_
  refine stw (ds := [.int .i64 x1.ID, .int .i64 x1.Rack, .int .i64 x1.Room, .int .i64 x1.State]) rfl rfl rfl sz_41 K2 s0 rfl rfl fun w3 K3 => ?_
  refine dn <| rg <| ev (Ev.loadBoxCell na_23 rfl (K3.x s2) rfl) <| ev (Ev.len Tryz.underlying23 rfl) <| mv rfl <| dn <| WP.block ?_
  have hq2 : (0 : Int) = ((0 : Nat) : Int) := by simp
  refine WP.re (t := 16) rfl (congrArg (Value.int .i64) hq2) <| WP.lp (fun mJ lJ wJ => ∃ (k2 : Nat) (F2 : List Res), lJ = [(0, .func (.yield lr) #[] #[]), (2, .pointer (some ⟨gp2, 0, none⟩)), (5, .pointer (some ⟨g1, 0, none⟩)), (8, .slice A_1 xs.length c_1), (9, .int .i64 ((xs.length : Nat) : Int)), (10, .int .i64 ((k : Nat) : Int)), (14, .slice A_2 ys.length c_2), (15, .int .i64 ((ys.length : Nat) : Int)), (16, .int .i64 ((k2 : Nat) : Int))] ∧ mJ = ys.length - k2 ∧ k2 ≤ ys.length ∧ (Jf (pairsL (xs.take k) ys ++ (ys.take k2).map (fun y => (x1, y))) F2) ∧ Hp b S wJ (rBx g1 41 [.int .i64 x1.ID, .int .i64 x1.Rack, .int .i64 x1.Room, .int .i64 x1.State] :: rBx gp1 23 [.slice A_1 xs.length c_1] :: rBx gp2 23 [.slice A_2 ys.length c_2] :: rOwn tNode 41 A_1 c_1 xs :: rOwn tNode 41 A_2 c_2 ys :: F2)) ⟨0, F, rfl, rfl, Nat.zero_le _, by simpa using hJt, K3⟩ rfl ?_
  rintro _ _ w4 ⟨k2, F2, rfl, rfl, hk2, hJt2, K4⟩
  refine rg <| ev (Ev.lss rfl rfl) <| dn ?_
  refine WP.cond rfl (fun hc17 => ?_) (fun hc17 => ?_)
  ·
   replace hc17 := of_decide_eq_true hc17
   refine WP.skip (Pst.norm ?_)
   refine WP.seq <| WP.block <| rg ?_
   obtain ⟨x2, hx2⟩ := get_some (xs := ys) (i := k2) (by omega)
   refine ev (Ev.index (i := k2) Tryz.underlying23 sz_41 rfl rfl rfl (lt_of_get hx2) ((K4.o s4).some_ hx2)) <| ev (Ev.loadRow ag_41 rfl rfl ((K4.o s4).flat_row hx2)) ?_
   refine al (cs := [.int .i64 0, .int .i64 0, .int .i64 0, .int .i64 0]) zero_41 rfl K4 fun g2 w5 K5 => ?_
   refine stw (ds := [.int .i64 x2.ID, .int .i64 x2.Rack, .int .i64 x2.Room, .int .i64 x2.State]) rfl rfl rfl sz_41 K5 s0 rfl rfl fun w6 K6 => ?_
   refine dn <| rg <| mv rfl <| ev (Ev.loadBox ag_41 rfl rfl (K6.x s1)) <| ev (Ev.loadBox ag_41 rfl rfl (K6.x s0)) ?_
   have hy1 := hY (pairsL (xs.take k) ys ++ (ys.take k2).map (fun y => (x1, y))) (x1, x2) _ _ _ hJt2 (pairs_pre hx1 hx2) (Hp.comm (F := [rBx g2 41 [.int .i64 x2.ID, .int .i64 x2.Rack, .int .i64 x2.Room, .int .i64 x2.State], rBx g1 41 [.int .i64 x1.ID, .int .i64 x1.Rack, .int .i64 x1.Room, .int .i64 x1.State], rBx gp1 23 [.slice A_1 xs.length c_1], rBx gp2 23 [.slice A_2 ys.length c_2], rOwn tNode 41 A_1 c_1 xs, rOwn tNode 41 A_2 c_2 ys]) K6)
   refine WL.yield trivial rfl rfl hy1 (by rintro e w' (⟨rfl, _⟩ | ⟨rfl, _⟩) <;> exact ⟨_, rfl⟩) rfl rfl rfl ?_
   rintro v w7 (⟨hv, F1, hJ1, K7⟩ | ⟨hv, F1, hJ1, K7⟩)
   ·
    cases hv
    have K7c := Hp.comm (F := F1) K7
    refine ev (Ev.not rfl) <| dn ?_
    refine WP.cond_end rfl (fun _h => absurd _h (by decide)) (fun _h => ?_)
    refine WP.skip (Pst.blk_norm (Pst.norm ?_))
    refine rge <| ev (Ev.add rfl rfl (I64.mk (by omega) (by omega))) <| mv rfl <| dne ?_
    have hq3 : (((k2 + 1 : Nat) : Int) : Int) = (((k2 + 1) : Nat) : Int) := by simp
    refine Pst.re (t := 16) rfl (congrArg (Value.int .i64) hq3) ?_
    exact Pst.ag ⟨(k2 + 1), F1, rfl, rfl, by omega, by rw [take_snoc hx2, List.map_append, ← List.append_assoc]; assumption, (K7c.rm s0)⟩ rfl (by omega)
   ·
    cases hv
    have K7c := Hp.comm (F := F1) K7
    refine ev (Ev.not rfl) <| dn ?_
    refine WP.cond_end rfl (fun _h => ?_) (fun _h => absurd _h (by decide))
    exact WP.ret (Pst.blk_ret (Pst.then_ret (Pst.then_ret (Pst.blk_ret (Pst.blk_ret (Pst.then_ret (Pst.then_ret (Pst.blk_ret (Pst.retI rfl ⟨⟨_, rfl⟩, .inr ⟨_, _, hJ1, ((((((K7c.rm s5).rm s4).rm s3).rm s2).rm s1).rm s0)⟩⟩)))))))))
  replace hc17 := of_decide_eq_false hc17
  refine WP.exit (Pst.then_exit (Pst.then_exit (Pst.blk_eq (Pst.blk_norm (Pst.norm ?_)))))
  refine rge <| ev (Ev.add rfl rfl (I64.mk (by omega) (by omega))) <| mv rfl <| dne ?_
  have hq4 : (((k + 1 : Nat) : Int) : Int) = (((k + 1) : Nat) : Int) := by simp
  refine Pst.re (t := 10) rfl (congrArg (Value.int .i64) hq4) ?_
  exact Pst.ag ⟨(k + 1), F2, rfl, rfl, by omega, by rw [pairs_snoc hx1]; rw [List.take_of_length_le (show ys.length ≤ k2 by omega)] at hJt2; exact hJt2, (K4.rm s0)⟩ rfl (by omega)
 replace hc11 := of_decide_eq_false hc11
 exact WP.exit (Pst.then_exit (Pst.then_exit (Pst.blk_eq (Pst.normI (Pst.retI rfl ⟨⟨_, rfl⟩, .inl ⟨_, by rw [List.take_of_length_le (by omega)] at hJt; exact hJt, ((((K1.rm s3).rm s2).rm s1).rm s0)⟩⟩)))))

end Go.Proofs.YtigmondpokkaoaaGreat
