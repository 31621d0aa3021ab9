/- Proved: for every input suturetop.TopRepairs returns true, and its arguments read afterwards as before. Conditions: none beyond the statement's own. -/
import Derived.Test.YthcmboepffiliaaGreatvG16
import Derived.Test.YthcmboepffiliaaGreatRows
set_option linter.all false
namespace Go.Proofs.YthcmboepffiliaaGreat.topRepairs
open Go.ChangeShapes Go.WideShapes Go.ChangeAt Go.RowKit

theorem own : ownKnob Tryz.prog.godebug = none := by kernel_rfl
theorem laidOut : laidOutB Tryz.prog = true := by kernel_rfl
set_option maxRecDepth 100000 in
theorem reads_23 : Reads Tryz.prog 23 tRules ARules.wf := by
  intro H enc w base spare held fuel cs x h
  obtain ⟨xs, n, _, _, hlen, hxl, hf⟩ := DataW.trod_struct Tryz.underlying23 h
  have hc : cs.length = 6 := hlen.trans (by kernel_rfl)
  clear hlen
  obtain ⟨c0, cs0, rfl, hc0⟩ := len_succ hc
  obtain ⟨c1, cs1, rfl, hc1⟩ := len_succ hc0
  obtain ⟨c2, cs2, rfl, hc2⟩ := len_succ hc1
  obtain ⟨c3, cs3, rfl, hc3⟩ := len_succ hc2
  obtain ⟨c4, cs4, rfl, hc4⟩ := len_succ hc3
  obtain ⟨c5, cs5, rfl, hc5⟩ := len_succ hc4
  obtain rfl := len_zero hc5
  obtain ⟨y0, e0⟩ := get_ok (i := 0) hxl (by decide)
  have f0 := (hf 0 _ rfl).trans e0
  obtain ⟨a0, g0, _, w0⟩ := DataW.trod_int Tryz.underlying3 f0
  have g0' : [c0] = [Value.int .i64 a0] := g0
  cases g0'
  obtain ⟨y1, e1⟩ := get_ok (i := 1) hxl (by decide)
  have f1 := (hf 1 _ rfl).trans e1
  obtain ⟨a1, g1, _, w1⟩ := DataW.trod_int Tryz.underlying3 f1
  have g1' : [c1] = [Value.int .i64 a1] := g1
  cases g1'
  obtain ⟨y2, e2⟩ := get_ok (i := 2) hxl (by decide)
  have f2 := (hf 2 _ rfl).trans e2
  obtain ⟨a2, g2, _, w2⟩ := DataW.trod_int Tryz.underlying3 f2
  have g2' : [c2] = [Value.int .i64 a2] := g2
  cases g2'
  obtain ⟨y3, e3⟩ := get_ok (i := 3) hxl (by decide)
  have f3 := (hf 3 _ rfl).trans e3
  obtain ⟨a3, g3, _, w3⟩ := DataW.trod_int Tryz.underlying3 f3
  have g3' : [c3] = [Value.int .i64 a3] := g3
  cases g3'
  obtain ⟨y4, e4⟩ := get_ok (i := 4) hxl (by decide)
  have f4 := (hf 4 _ rfl).trans e4
  obtain ⟨a4, g4, _, w4⟩ := DataW.trod_int Tryz.underlying3 f4
  have g4' : [c4] = [Value.int .i64 a4] := g4
  cases g4'
  obtain ⟨y5, e5⟩ := get_ok (i := 5) hxl (by decide)
  have f5 := (hf 5 _ rfl).trans e5
  obtain ⟨a5, g5, _, w5⟩ := DataW.trod_int Tryz.underlying3 f5
  have g5' : [c5] = [Value.int .i64 a5] := g5
  cases g5'
  exact ⟨⟨a0, a1, a2, a3, a4, a5⟩, rfl, ⟨in_i64 w0, in_i64 w1, in_i64 w2, in_i64 w3, in_i64 w4, in_i64 w5⟩⟩
set_option maxRecDepth 100000 in
theorem reads_32 : Reads Tryz.prog 32 tItem AItem.wf := by
  intro H enc w base spare held fuel cs x h
  obtain ⟨xs, n, _, _, hlen, hxl, hf⟩ := DataW.trod_struct Tryz.underlying32 h
  have hc : cs.length = 4 := hlen.trans (by kernel_rfl)
  clear hlen
  obtain ⟨c0, cs0, rfl, hc0⟩ := len_succ hc
  obtain ⟨c1, cs1, rfl, hc1⟩ := len_succ hc0
  obtain ⟨c2, cs2, rfl, hc2⟩ := len_succ hc1
  obtain ⟨c3, cs3, rfl, hc3⟩ := len_succ hc2
  obtain rfl := len_zero hc3
  obtain ⟨y0, e0⟩ := get_ok (i := 0) hxl (by decide)
  have f0 := (hf 0 _ rfl).trans e0
  obtain ⟨a0, g0, _, w0⟩ := DataW.trod_int Tryz.underlying3 f0
  have g0' : [c0] = [Value.int .i64 a0] := g0
  cases g0'
  obtain ⟨y1, e1⟩ := get_ok (i := 1) hxl (by decide)
  have f1 := (hf 1 _ rfl).trans e1
  obtain ⟨a1, g1, _, w1⟩ := DataW.trod_int Tryz.underlying3 f1
  have g1' : [c1] = [Value.int .i64 a1] := g1
  cases g1'
  obtain ⟨y2, e2⟩ := get_ok (i := 2) hxl (by decide)
  have f2 := (hf 2 _ rfl).trans e2
  obtain ⟨a2, g2, _, w2⟩ := DataW.trod_int Tryz.underlying3 f2
  have g2' : [c2] = [Value.int .i64 a2] := g2
  cases g2'
  obtain ⟨y3, e3⟩ := get_ok (i := 3) hxl (by decide)
  have f3 := (hf 3 _ rfl).trans e3
  obtain ⟨a3, g3, _, w3⟩ := DataW.trod_int Tryz.underlying3 f3
  have g3' : [c3] = [Value.int .i64 a3] := g3
  cases g3'
  exact ⟨⟨a0, a1, a2, a3⟩, rfl, ⟨in_i64 w0, in_i64 w1, in_i64 w2, in_i64 w3⟩⟩
set_option maxRecDepth 100000 in
/-- The law's step: whatever the arguments are, the call returns true, and they read as they did. -/
theorem lifted (os : Os) (started : os.Started) (H : Type) (enc : TypeId × Value → H) :
    ReturnsInHanded {} Tryz.checked os 3 .any (Rows.topRepairsSpec.pre6 enc Tryz.prog Tryz.f3 Rows.topRepairsRow.domain false) (Rows.topRepairsSpec.post enc Tryz.prog Tryz.f3 false true false false) := by
  refine returnsInHanded_of_change (C := Tryz.checked) own started (by kernel_rfl) Tryz.func3
    (ChangeSpec.witness6 (enc := enc) (C := Tryz.checked) false ⟨#[], #[.agg #[.int .i64 0, .int .i64 0, .int .i64 0, .int .i64 0, .int .i64 0, .int .i64 0], .slice none 0 0], []⟩ 8 (by kernel_rfl) (by kernel_rfl) (by kernel_rfl) (by kernel_rfl)) ?_
  intro W base args ds gs before hval0 hW hcnd _
  have hval : ∀ (j : Nat) t v, Tryz.f3.params[j]? = some t → args[j]? = some v → Value.okWide Tryz.prog W .any base t v := hval0
  have hW' := hW
  obtain ⟨p, q, hA0, hV, rfl, hfz, hnd⟩ := hW
  have hA : DataW.TrodAll enc Tryz.prog W 0 (fun _ => true) true Tryz.f3.params.toList args.toList ds p := hA0
  rw [Tryz.params3] at hA hval
  obtain ⟨v0, vs0, d0, ds0, p0, q0, hargs, rfl, rfl, h0, r0⟩ := trodAll_cons hA
  obtain ⟨v1, vs1, d1, ds1, p1, q1, rfl, rfl, rfl, h1, r1⟩ := trodAll_cons r0
  obtain ⟨rfl, rfl, rfl⟩ := trodAll_nil r1
  obtain rfl : args = #[v0, v1] := by cases args; simp_all
  obtain ⟨rfl, rfl⟩ := trodVars_none hV
  have k0 := h0
  have lt0 : ∀ x ∈ p0, x.block < W.heap.size := by obtain ⟨m, hm⟩ := k0; exact DataW.trod_lt m _ _ _ hm
  obtain ⟨x0, cs0, hv0, hR0, g0⟩ := arg_struct reads_23 Tryz.underlying23 (hval 0 23 v0 rfl rfl) h0
  have hR0' : cs0 = x0.enc := hR0
  subst hR0'
  subst hv0
  have k1 := h1
  have lt1 : ∀ x ∈ p1, x.block < W.heap.size := by obtain ⟨m, hm⟩ := k1; exact DataW.trod_lt m _ _ _ hm
  obtain ⟨A1, l1, c1, hv1, s1, g1⟩ := arg_slice reads_32 (by kernel_rfl) Tryz.underlying24 (hval 1 24 v1 rfl rfl) h1
  subst hv1
  clear hA0 hval0
  refine Calls.mono (trep_true (S0 := Any) W x0 s1 g1) fun e W' ⟨v, he, hv, hx⟩ => ?_
  subst hv
  subst he
  have bel : Go.RowKit.Below W.heap.size W W' := ⟨hx.ext.os, hx.ext.tape, hx.ext.output, hx.ext.size, hx.ext.block⟩
  exact ⟨_, rfl, _, _, _, [], _, [], hW', trodAll_mk1 (shut_bool Tryz.underlying4 _), (trodAll_cons_mk (Below.trod laidOut (by kernel_rfl) (of_decide_eq_true (by kernel_rfl)) k0 bel lt0) (trodAll_cons_mk (Below.trod laidOut (by kernel_rfl) (of_decide_eq_true (by kernel_rfl)) k1 bel lt1) trodAll_mk0)), rfl, bel.frame _, fun h => by cases h⟩
theorem and_tt {a b : Bool} (ha : a = true) (hb : b = true) : (a && b) = true := by rw [ha, hb]; rfl
set_option maxHeartbeats 4000000 in
theorem closedFacts : joinedFacts Tryz.prog 3 Tryz.f3 Rows.topRepairsSpec Rows.topRepairsRow = true := by
  unfold joinedFacts
  repeat' (with_reducible refine and_tt ?_ ?_)
  all_goals (as_aux_lemma => kernel_rfl)
theorem proved : Rows.TopRepairsSaid :=
  OpenClaim.holds_of_wide 3 Tryz.f3 rfl rfl rfl rfl rfl rfl rfl ⟨rfl, rfl, rfl, rfl, rfl⟩ rfl rfl rfl rfl rfl (by kernel_rfl) Tryz.func3 closedFacts
    (of_decide_eq_true (by kernel_rfl)) (by unfold Func.isWrapper; first | (rw [if_pos (by decide +kernel)]; kernel_rfl) | (rw [if_neg (by decide +kernel)]; exact ⟨rfl, rfl⟩))
    (fun os started H enc _ => lifted os started H enc)
end Go.Proofs.YthcmboepffiliaaGreat.topRepairs
