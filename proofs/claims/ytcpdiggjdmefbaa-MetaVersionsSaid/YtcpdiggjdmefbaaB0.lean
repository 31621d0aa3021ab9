/- Contracts of functions: what each call hands back, and that it leaves all that was there as it was. -/
import Derived.Test.YtcpdiggjdmefbaaRows
import Derived.Test.YtcpdiggjdmefbaaPl1
import Derived.Test.YtcpdiggjdmefbaaM7
import Derived.Test.YtcpdiggjdmefbaaLibA
set_option maxRecDepth 4000
set_option linter.all false
namespace Go.Proofs.Ytcpdiggjdmefbaa
open Go.RowKit
theorem int_one (x : Int) : ∀ u ∈ [Value.int .i64 x], u.oneCell' = true := by intro u hu; simp only [List.mem_cons, List.not_mem_nil, or_false] at hu; rw [hu]; rfl
def tInt : Ty Int := Ty.flat 1 (fun x => [.int .i64 x]) (by decide) (fun _ => rfl) int_one
instance : Flat tInt := ⟨fun h => h⟩

theorem filter_snoc {α : Type} {p : α → Bool} {l : List α} {k : Nat} {x : α} (hx : l[k]? = some x) : (l.take (k + 1)).filter p = (l.take k).filter p ++ (if p x = true then [x] else []) := by
  rw [take_snoc hx, List.filter_append]; simp only [List.filter_cons, List.filter_nil]
theorem same_snoc {α : Type} {a b : List α} {k : Nat} {x y : α} (h : a.take k = b.take k) (hx : a[k]? = some x) (hy : b[k]? = some y) (e : x = y) : a.take (k + 1) = b.take (k + 1) := by
  rw [take_snoc hx, take_snoc hy, h, e]

theorem cl_64 : Callable Try.prog 64 := fun _ _ => by kernel_rfl
theorem isNaN_ok {S0 : Nat → Prop} (w : World) (x : Int) :
    Rets Try.prog 64 #[.int .i64 x] w fun v w' => v = .bool false ∧ Hp w S0 w' [] := by
 refine WP.enter Try.func64 rfl Try.ntmps64 rfl ?_
 have H0 := Hp.init w S0
 refine rg <| as_ rfl <| dn <| rg <| mv rfl <| mv rfl <| ev (Ev.neq rfl rfl) <| as_ rfl <| dn ?_
 refine WP.ret (Pst.body_ret rfl rfl rfl ?_)
 have hq1 : ((!decide (x = x)) : Bool) = false := by simp
 exact ⟨by rw [hq1] <;> rfl, H0⟩

theorem Compare_ok {S0 : Nat → Prop} (w : World) (x : Int) (y : Int) :
    Rets Try.prog 35 #[.int .i64 x, .int .i64 y] w fun v w' => v = .int .i64 (cmpI x y) ∧ Hp w S0 w' [] := by
 refine WP.enter Try.func35 rfl Try.ntmps35 rfl ?_
 have H0 := Hp.init w S0
 refine rg <| as_ rfl <| dn <| rg <| mv rfl <| WL.call rfl rfl rfl cl_64 (isNaN_ok (S0 := Any) _ x) rfl ?_
 rintro _ w1 ⟨rfl, h1⟩
 have K1 := H0.c0 h1
 refine as_ rfl <| dn <| rg <| mv rfl <| WL.call rfl rfl rfl cl_64 (isNaN_ok (S0 := Any) _ y) rfl ?_
 rintro _ w2 ⟨rfl, h2⟩
 have K2 := K1.c0 h2
 refine as_ rfl <| dn <| WP.seq <| rg <| mv rfl <| dn ?_
 refine WP.cond_end rfl (fun _h => absurd _h (by decide)) (fun _h => ?_)
 refine WP.skip (Pst.norm ?_)
 refine WP.seq <| rg <| mv rfl <| dn ?_
 refine WP.cond_end rfl (fun _h => absurd _h (by decide)) (fun _h => ?_)
 refine WP.skip (Pst.norm ?_)
 refine WP.seq <| rg <| mv rfl <| mv rfl <| ev (Ev.lss rfl rfl) <| dn ?_
 refine WP.cond_end rfl (fun hc16 => ?_) (fun hc16 => ?_)
 ·
  replace hc16 := of_decide_eq_true hc16
  refine rg <| as_ rfl <| dn ?_
  refine WP.ret (Pst.then_ret (Pst.body_ret rfl rfl rfl ?_))
  have hq1 : ((-1) : Int) = (cmpI x y) := by unfold cmpI; rw [if_pos hc16]
  exact ⟨by rw [← hq1] <;> rfl, K2⟩
 replace hc16 := of_decide_eq_false hc16
 refine WP.skip (Pst.norm ?_)
 refine WP.seq <| rg <| mv rfl <| mv rfl <| ev (Ev.gtr rfl rfl) <| dn ?_
 refine WP.cond_end rfl (fun hc19 => ?_) (fun hc19 => ?_)
 ·
  replace hc19 := of_decide_eq_true hc19
  refine rg <| as_ rfl <| dn ?_
  refine WP.ret (Pst.then_ret (Pst.body_ret rfl rfl rfl ?_))
  have hq2 : (1 : Int) = (cmpI x y) := by unfold cmpI; rw [if_neg hc16, if_pos hc19]
  exact ⟨by rw [← hq2] <;> rfl, K2⟩
 replace hc19 := of_decide_eq_false hc19
 refine WP.skip (Pst.norm ?_)
 refine rg <| as_ rfl <| dn ?_
 refine WP.ret (Pst.body_ret rfl rfl rfl ?_)
 have hq3 : (0 : Int) = (cmpI x y) := by unfold cmpI; rw [if_neg hc16, if_neg hc19]
 exact ⟨by rw [← hq3] <;> rfl, K2⟩

end Go.Proofs.Ytcpdiggjdmefbaa
