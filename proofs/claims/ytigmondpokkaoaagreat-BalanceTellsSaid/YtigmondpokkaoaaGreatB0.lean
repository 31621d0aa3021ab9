/- Contracts of functions: what each call hands back, and that it leaves all that was there as it was. -/
import Derived.Test.YtigmondpokkaoaaGreatRows
import Derived.Test.YtigmondpokkaoaaGreatPl1
import Derived.Test.YtigmondpokkaoaaGreatM9
import Derived.Test.YtigmondpokkaoaaGreatM10
import Derived.Test.YtigmondpokkaoaaGreatLibA
import Derived.Test.YtigmondpokkaoaaGreatLay
set_option maxRecDepth 4000
set_option linter.all false
namespace Go.Proofs.YtigmondpokkaoaaGreat
open Go.RowKit
theorem int_one (x : Int) : ∀ u ∈ [Value.int .i64 x], u.oneCell' = true := by intro u hu; simp only [List.mem_cons, List.not_mem_nil, or_false] at hu; rw [hu]; rfl
def tInt : Ty Int := Ty.flat 1 (fun x => [.int .i64 x]) (by decide) (fun _ => rfl) int_one
instance : Flat tInt := ⟨fun h => h⟩

theorem filter_snoc {α : Type} {p : α → Bool} {l : List α} {k : Nat} {x : α} (hx : l[k]? = some x) : (l.take (k + 1)).filter p = (l.take k).filter p ++ (if p x = true then [x] else []) := by
  rw [take_snoc hx, List.filter_append]; simp only [List.filter_cons, List.filter_nil]
theorem same_snoc {α : Type} {a b : List α} {k : Nat} {x y : α} (h : a.take k = b.take k) (hx : a[k]? = some x) (hy : b[k]? = some y) (e : x = y) : a.take (k + 1) = b.take (k + 1) := by
  rw [take_snoc hx, take_snoc hy, h, e]

theorem cl_62 : Callable Tryz.prog 62 := fun _ _ => by kernel_rfl
theorem sz_3 : Size Tryz.prog 3 1 := fun _ => by kernel_rfl
theorem na_3 : NotAgg Tryz.prog 3 := fun _ => by kernel_rfl
theorem isNaN_ok {S0 : Nat → Prop} (w : World) (x : Int) :
    Rets Tryz.prog 62 #[.int .i64 x] w fun v w' => v = .bool false ∧ Hp w S0 w' [] := by
 refine WP.enter Tryz.func62 rfl Tryz.ntmps62 rfl ?_
 have H0 := Hp.init w S0
 refine rg <| as_ rfl <| dn <| rg <| mv rfl <| mv rfl <| ev (Ev.neq rfl rfl) <| as_ rfl <| dn ?_
 refine WP.ret (Pst.body_ret rfl rfl rfl ?_)
 have hq1 : ((!decide (x = x)) : Bool) = false := by simp
 exact ⟨by rw [hq1] <;> rfl, H0⟩

theorem Compare_ok {S0 : Nat → Prop} (w : World) (x : Int) (y : Int) :
    Rets Tryz.prog 39 #[.int .i64 x, .int .i64 y] w fun v w' => v = .int .i64 (cmpI x y) ∧ Hp w S0 w' [] := by
 refine WP.enter Tryz.func39 rfl Tryz.ntmps39 rfl ?_
 have H0 := Hp.init w S0
 refine rg <| as_ rfl <| dn <| rg <| mv rfl <| WL.call rfl rfl rfl cl_62 (isNaN_ok (S0 := Any) _ x) rfl ?_
 rintro _ w1 ⟨rfl, h1⟩
 have K1 := H0.c0 h1
 refine as_ rfl <| dn <| rg <| mv rfl <| WL.call rfl rfl rfl cl_62 (isNaN_ok (S0 := Any) _ y) rfl ?_
 rintro _ w2 ⟨rfl, h2⟩
 have K2 := K1.c0 h2
 refine as_ rfl <| dn <| WP.seq <| rg <| mv rfl <| dn ?_
 refine WP.cond_end rfl (fun _h => absurd _h (by decide)) (fun _h => ?_)
 refine WP.skip (Pst.norm ?_)
 refine WP.seq <| rg <| mv rfl <| dn ?_
 refine WP.cond_end rfl (fun _h => absurd _h (by decide)) (fun _h => ?_)
 refine WP.skip (Pst.norm ?_)
 refine WP.seq <| rg <| mv rfl <| mv rfl <| ev (Ev.lss rfl rfl) <| dn ?_
 refine WP.cond_end rfl (fun hc16 => ?_) (fun hc16 => ?_)
 ·
  replace hc16 := of_decide_eq_true hc16
  refine rg <| as_ rfl <| dn ?_
  refine WP.ret (Pst.then_ret (Pst.body_ret rfl rfl rfl ?_))
  have hq1 : ((-1) : Int) = (cmpI x y) := by unfold cmpI; rw [if_pos hc16]
  exact ⟨by rw [← hq1] <;> rfl, K2⟩
 replace hc16 := of_decide_eq_false hc16
 refine WP.skip (Pst.norm ?_)
 refine WP.seq <| rg <| mv rfl <| mv rfl <| ev (Ev.gtr rfl rfl) <| dn ?_
 refine WP.cond_end rfl (fun hc19 => ?_) (fun hc19 => ?_)
 ·
  replace hc19 := of_decide_eq_true hc19
  refine rg <| as_ rfl <| dn ?_
  refine WP.ret (Pst.then_ret (Pst.body_ret rfl rfl rfl ?_))
  have hq2 : (1 : Int) = (cmpI x y) := by unfold cmpI; rw [if_neg hc16, if_pos hc19]
  exact ⟨by rw [← hq2] <;> rfl, K2⟩
 replace hc19 := of_decide_eq_false hc19
 refine WP.skip (Pst.norm ?_)
 refine rg <| as_ rfl <| dn ?_
 refine WP.ret (Pst.body_ret rfl rfl rfl ?_)
 have hq3 : (0 : Int) = (cmpI x y) := by unfold cmpI; rw [if_neg hc16, if_neg hc19]
 exact ⟨by rw [← hq3] <;> rfl, K2⟩

theorem Ints_ok {S0 : Nat → Prop} (w : World) {A_a : Option Addr} {c_a : Nat} {a : List Int} (h_a : Sl tInt S0 w A_a c_a a) {A_b : Option Addr} {c_b : Nat} {b : List Int} (h_b : Sl tInt S0 w A_b c_b b) :
    Rets Tryz.prog 55 #[.slice A_a a.length c_a, .slice A_b b.length c_b] w fun v w' => v = .bool (decide (a = b)) ∧ Hp w S0 w' [] := by
 refine WP.enter Tryz.func55 rfl Tryz.ntmps55 rfl ?_
 have H0 := Hp.init w S0
 have hb_a := h_a.len_le
 have hb_b := h_b.len_le
 refine rg <| as_ rfl <| dn <| WP.seq <| rg <| mv rfl <| ev (Ev.len Tryz.underlying24 rfl) <| mv rfl <| ev (Ev.len Tryz.underlying24 rfl) <| ev (Ev.neq rfl rfl) ?_
 refine dn ?_
 refine WP.cond_end rfl (fun hc10 => ?_) (fun hc10 => ?_)
 ·
  replace hc10 := not_dec_t hc10
  refine rg <| as_ rfl <| dn ?_
  refine WP.ret (Pst.then_ret (Pst.body_ret rfl rfl rfl ?_))
  have hq1 : (false : Bool) = (decide (a = b)) := by symm; simp only [decide_eq_false_iff_not]; intro h; subst h; exact hc10 rfl
  exact ⟨by rw [← hq1] <;> rfl, H0⟩
 replace hc10 := not_dec_f hc10
 refine WP.skip (Pst.norm ?_)
 refine WP.seq <| rg <| as_ rfl <| dn <| WP.block ?_
 have hq2 : (0 : Int) = ((0 : Nat) : Int) := by simp
 refine WP.re (t := 5) rfl (congrArg (Value.int .i64) hq2) <| WP.lp (fun mJ lJ wJ => ∃ (k : Nat), lJ = [(0, .slice A_a a.length c_a), (1, .slice A_b b.length c_b), (5, .int .i64 ((k : Nat) : Int))] ∧ mJ = a.length - k ∧ k ≤ a.length ∧ (a.take k = b.take k) ∧ Hp w S0 wJ []) ⟨0, rfl, rfl, Nat.zero_le _, by simp, H0⟩ rfl ?_
 rintro _ _ w1 ⟨k, rfl, rfl, hk, hse, K1⟩
 refine WP.seq <| rg <| mv rfl <| mv rfl <| ev (Ev.len Tryz.underlying24 rfl) <| ev (Ev.lss rfl rfl) <| dn ?_
 refine WP.cond_end rfl (fun hc14 => ?_) (fun hc14 => ?_)
 ·
  replace hc14 := of_decide_eq_true hc14
  refine WP.skip (Pst.norm ?_)
  refine WP.seq <| WP.block <| WP.draw (by kernel_rfl) (by kernel_rfl) <| WQ.ev (Ev.move rfl) rfl <| WQ.ev (Ev.move rfl) rfl ?_
  obtain ⟨x1, hx1⟩ := get_some (xs := a) (i := k) (by omega)
  refine WQ.ev (Ev.index (i := k) Tryz.underlying24 sz_3 rfl rfl rfl (lt_of_get hx1) ((K1.a h_a).some_ hx1)) rfl <| WQ.ev (Ev.loadCell na_3 rfl ((K1.a h_a).flat_cell (j := 0) hx1 rfl)) rfl ?_
  refine WQ.ev (Ev.move rfl) rfl <| WQ.ev (Ev.move rfl) rfl ?_
  obtain ⟨x2, hx2⟩ := get_some (xs := b) (i := k) (by omega)
  refine WQ.ev (Ev.index (i := k) Tryz.underlying24 sz_3 rfl rfl rfl (lt_of_get hx2) ((K1.a h_b).some_ hx2)) rfl <| WQ.ev (Ev.loadCell na_3 rfl ((K1.a h_b).flat_cell (j := 0) hx2 rfl)) rfl ?_
  refine WQ.ev (Ev.neq rfl rfl) rfl ?_
  refine WQ.done fun w2 e2 => ?_
  have K2 := K1.grow e2
  refine WP.cond_end rfl (fun hc25 => ?_) (fun hc25 => ?_)
  ·
   replace hc25 := not_dec_t hc25
   refine rg <| as_ rfl <| dn ?_
   refine WP.ret (Pst.blk_ret (Pst.then_ret (Pst.then_ret (Pst.blk_ret (Pst.then_ret (Pst.body_ret rfl rfl rfl ?_))))))
   have hq3 : (false : Bool) = (decide (a = b)) := by symm; simp only [decide_eq_false_iff_not]; intro h; subst h; rw [hx1] at hx2; cases hx2; exact hc25 rfl
   exact ⟨by rw [← hq3] <;> rfl, K2⟩
  replace hc25 := not_dec_f hc25
  refine WP.skip (Pst.blk_norm (Pst.norm ?_))
  refine rge <| mv rfl <| ev (Ev.add rfl rfl (I64.mk (by omega) (by omega))) <| as_ rfl <| dne ?_
  have hq4 : (((k + 1 : Nat) : Int) : Int) = (((k + 1) : Nat) : Int) := by simp
  refine Pst.re (t := 5) rfl (congrArg (Value.int .i64) hq4) ?_
  exact Pst.ag ⟨(k + 1), rfl, rfl, by omega, by exact same_snoc hse hx1 hx2 (by simpa using hc25), K2⟩ rfl (by omega)
 replace hc14 := of_decide_eq_false hc14
 refine WP.exit (Pst.then_exit (Pst.then_exit (Pst.blk_eq (Pst.norm ?_))))
 refine rg <| as_ rfl <| dn ?_
 refine WP.ret (Pst.body_ret rfl rfl rfl ?_)
 have hq5 : (true : Bool) = (decide (a = b)) := by symm; simp only [decide_eq_true_eq]; rw [List.take_of_length_le (by omega), List.take_of_length_le (by omega)] at hse; exact hse
 exact ⟨by rw [← hq5] <;> rfl, K1⟩

end Go.Proofs.YtigmondpokkaoaaGreat
