/- Proved: for every input suturelaw21.ControlRounds returns true, and its arguments read afterwards as before. Conditions: none beyond the statement's own. -/
import Derived.Test.YtjcklpooaaaglaaGreatRows
import Derived.Test.YtjcklpooaaaglaaGreatvG17
import Derived.Test.YtjcklpooaaaglaaGreatvG3
set_option linter.all false
namespace Go.Proofs.YtjcklpooaaaglaaGreat.controlRounds
open Go.ChangeShapes Go.WideShapes Go.ChangeAt Go.RowKit

theorem own : ownKnob Tryz.prog.godebug = none := by kernel_rfl
theorem laidOut : laidOutB Tryz.prog = true := by kernel_rfl
set_option maxRecDepth 100000 in
theorem reads_63 : Reads Tryz.prog 63 tNode ANode.wf := by
  intro H enc w base spare held fuel cs x h
  obtain ⟨xs, n, _, _, hlen, hxl, hf⟩ := DataW.trod_struct Tryz.underlying63 h
  have hc : cs.length = 4 := hlen.trans (by kernel_rfl)
  clear hlen
  obtain ⟨c0, cs0, rfl, hc0⟩ := len_succ hc
  obtain ⟨c1, cs1, rfl, hc1⟩ := len_succ hc0
  obtain ⟨c2, cs2, rfl, hc2⟩ := len_succ hc1
  obtain ⟨c3, cs3, rfl, hc3⟩ := len_succ hc2
  obtain rfl := len_zero hc3
  obtain ⟨y0, e0⟩ := get_ok (i := 0) hxl (by decide)
  have f0 := (hf 0 _ rfl).trans e0
  obtain ⟨a0, g0, _, w0⟩ := DataW.trod_int Tryz.underlying3 f0
  have g0' : [c0] = [Value.int .i64 a0] := g0
  cases g0'
  obtain ⟨y1, e1⟩ := get_ok (i := 1) hxl (by decide)
  have f1 := (hf 1 _ rfl).trans e1
  obtain ⟨a1, g1, _, w1⟩ := DataW.trod_int Tryz.underlying3 f1
  have g1' : [c1] = [Value.int .i64 a1] := g1
  cases g1'
  obtain ⟨y2, e2⟩ := get_ok (i := 2) hxl (by decide)
  have f2 := (hf 2 _ rfl).trans e2
  obtain ⟨a2, g2, _, w2⟩ := DataW.trod_int Tryz.underlying3 f2
  have g2' : [c2] = [Value.int .i64 a2] := g2
  cases g2'
  obtain ⟨y3, e3⟩ := get_ok (i := 3) hxl (by decide)
  have f3 := (hf 3 _ rfl).trans e3
  obtain ⟨a3, g3, _, w3⟩ := DataW.trod_int Tryz.underlying3 f3
  have g3' : [c3] = [Value.int .i64 a3] := g3
  cases g3'
  exact ⟨⟨a0, a1, a2, a3⟩, rfl, ⟨in_i64 w0, in_i64 w1, in_i64 w2, in_i64 w3⟩⟩
theorem reads_3 : Reads Tryz.prog 3 tInt InI64 := reads_int Tryz.underlying3 (fun _ _ => rfl)
set_option maxRecDepth 100000 in
theorem reads_53 : Reads Tryz.prog 53 tChunk AChunk.wf := by
  intro H enc w base spare held fuel cs x h
  obtain ⟨xs, n, _, _, hlen, hxl, hf⟩ := DataW.trod_struct Tryz.underlying53 h
  have hc : cs.length = 4 := hlen.trans (by kernel_rfl)
  clear hlen
  obtain ⟨c0, cs0, rfl, hc0⟩ := len_succ hc
  obtain ⟨c1, cs1, rfl, hc1⟩ := len_succ hc0
  obtain ⟨c2, cs2, rfl, hc2⟩ := len_succ hc1
  obtain ⟨c3, cs3, rfl, hc3⟩ := len_succ hc2
  obtain rfl := len_zero hc3
  obtain ⟨y0, e0⟩ := get_ok (i := 0) hxl (by decide)
  have f0 := (hf 0 _ rfl).trans e0
  obtain ⟨a0, g0, _, w0⟩ := DataW.trod_int Tryz.underlying3 f0
  have g0' : [c0] = [Value.int .i64 a0] := g0
  cases g0'
  obtain ⟨y1, e1⟩ := get_ok (i := 1) hxl (by decide)
  have f1 := (hf 1 _ rfl).trans e1
  obtain ⟨a1, g1, _, w1⟩ := DataW.trod_int Tryz.underlying3 f1
  have g1' : [c1] = [Value.int .i64 a1] := g1
  cases g1'
  obtain ⟨y2, e2⟩ := get_ok (i := 2) hxl (by decide)
  have f2 := (hf 2 _ rfl).trans e2
  obtain ⟨a2, g2, _, w2⟩ := DataW.trod_int Tryz.underlying48 f2
  have g2' : [c2] = [Value.int .u32 a2] := g2
  cases g2'
  obtain ⟨y3, e3⟩ := get_ok (i := 3) hxl (by decide)
  have f3 := (hf 3 _ rfl).trans e3
  obtain ⟨A3, a3, d3, g3, s3, w3⟩ := Reads.slice reads_3 (by kernel_rfl) Tryz.underlying51 f3
  have g3' : [c3] = [Value.slice A3 a3.length d3] := g3
  cases g3'
  exact ⟨⟨a0, a1, a2, a3⟩, ⟨A3, d3, rfl, s3⟩, ⟨in_i64 w0, in_i64 w1, in_u32 w2, w3⟩⟩
set_option maxRecDepth 100000 in
theorem reads_251 : Reads Tryz.prog 251 tSession ASession.wf := by
  intro H enc w base spare held fuel cs x h
  obtain ⟨xs, n, _, _, hlen, hxl, hf⟩ := DataW.trod_struct Tryz.underlying251 h
  have hc : cs.length = 3 := hlen.trans (by kernel_rfl)
  clear hlen
  obtain ⟨c0, cs0, rfl, hc0⟩ := len_succ hc
  obtain ⟨c1, cs1, rfl, hc1⟩ := len_succ hc0
  obtain ⟨c2, cs2, rfl, hc2⟩ := len_succ hc1
  obtain rfl := len_zero hc2
  obtain ⟨y0, e0⟩ := get_ok (i := 0) hxl (by decide)
  have f0 := (hf 0 _ rfl).trans e0
  obtain ⟨a0, g0, _, w0⟩ := DataW.trod_int Tryz.underlying3 f0
  have g0' : [c0] = [Value.int .i64 a0] := g0
  cases g0'
  obtain ⟨y1, e1⟩ := get_ok (i := 1) hxl (by decide)
  have f1 := (hf 1 _ rfl).trans e1
  obtain ⟨a1, g1, _, w1⟩ := DataW.trod_int Tryz.underlying3 f1
  have g1' : [c1] = [Value.int .i64 a1] := g1
  cases g1'
  obtain ⟨y2, e2⟩ := get_ok (i := 2) hxl (by decide)
  have f2 := (hf 2 _ rfl).trans e2
  obtain ⟨a2, g2, _, w2⟩ := DataW.trod_int Tryz.underlying3 f2
  have g2' : [c2] = [Value.int .i64 a2] := g2
  cases g2'
  exact ⟨⟨a0, a1, a2⟩, rfl, ⟨in_i64 w0, in_i64 w1, in_i64 w2⟩⟩
set_option maxRecDepth 100000 in
theorem reads_26 : Reads Tryz.prog 26 tMeta AMeta.wf := by
  intro H enc w base spare held fuel cs x h
  obtain ⟨xs, n, _, _, hlen, hxl, hf⟩ := DataW.trod_struct Tryz.underlying26 h
  have hc : cs.length = 3 := hlen.trans (by kernel_rfl)
  clear hlen
  obtain ⟨c0, cs0, rfl, hc0⟩ := len_succ hc
  obtain ⟨c1, cs1, rfl, hc1⟩ := len_succ hc0
  obtain ⟨c2, cs2, rfl, hc2⟩ := len_succ hc1
  obtain rfl := len_zero hc2
  obtain ⟨y0, e0⟩ := get_ok (i := 0) hxl (by decide)
  have f0 := (hf 0 _ rfl).trans e0
  obtain ⟨A0, a0, d0, g0, s0, w0⟩ := Reads.slice reads_63 (by kernel_rfl) Tryz.underlying22 f0
  have g0' : [c0] = [Value.slice A0 a0.length d0] := g0
  cases g0'
  obtain ⟨y1, e1⟩ := get_ok (i := 1) hxl (by decide)
  have f1 := (hf 1 _ rfl).trans e1
  obtain ⟨A1, a1, d1, g1, s1, w1⟩ := Reads.slice reads_53 (by kernel_rfl) Tryz.underlying23 f1
  have g1' : [c1] = [Value.slice A1 a1.length d1] := g1
  cases g1'
  obtain ⟨y2, e2⟩ := get_ok (i := 2) hxl (by decide)
  have f2 := (hf 2 _ rfl).trans e2
  obtain ⟨A2, a2, d2, g2, s2, w2⟩ := Reads.slice reads_251 (by kernel_rfl) Tryz.underlying24 f2
  have g2' : [c2] = [Value.slice A2 a2.length d2] := g2
  cases g2'
  exact ⟨⟨a0, a1, a2⟩, ⟨A0, d0, A1, d1, A2, d2, rfl, s0, s1, s2⟩, ⟨w0, w1, w2⟩⟩
set_option maxRecDepth 100000 in
theorem reads_72 : Reads Tryz.prog 72 tBeat ABeat.wf := by
  intro H enc w base spare held fuel cs x h
  obtain ⟨xs, n, _, _, hlen, hxl, hf⟩ := DataW.trod_struct Tryz.underlying72 h
  have hc : cs.length = 2 := hlen.trans (by kernel_rfl)
  clear hlen
  obtain ⟨c0, cs0, rfl, hc0⟩ := len_succ hc
  obtain ⟨c1, cs1, rfl, hc1⟩ := len_succ hc0
  obtain rfl := len_zero hc1
  obtain ⟨y0, e0⟩ := get_ok (i := 0) hxl (by decide)
  have f0 := (hf 0 _ rfl).trans e0
  obtain ⟨a0, g0, _, w0⟩ := DataW.trod_int Tryz.underlying3 f0
  have g0' : [c0] = [Value.int .i64 a0] := g0
  cases g0'
  obtain ⟨y1, e1⟩ := get_ok (i := 1) hxl (by decide)
  have f1 := (hf 1 _ rfl).trans e1
  obtain ⟨a1, g1, _, w1⟩ := DataW.trod_int Tryz.underlying3 f1
  have g1' : [c1] = [Value.int .i64 a1] := g1
  cases g1'
  exact ⟨⟨a0, a1⟩, rfl, ⟨in_i64 w0, in_i64 w1⟩⟩
set_option maxRecDepth 100000 in
theorem reads_77 : Reads Tryz.prog 77 tLease ALease.wf := by
  intro H enc w base spare held fuel cs x h
  obtain ⟨xs, n, _, _, hlen, hxl, hf⟩ := DataW.trod_struct Tryz.underlying77 h
  have hc : cs.length = 5 := hlen.trans (by kernel_rfl)
  clear hlen
  obtain ⟨c0, cs0, rfl, hc0⟩ := len_succ hc
  obtain ⟨c1, cs1, rfl, hc1⟩ := len_succ hc0
  obtain ⟨c2, cs2, rfl, hc2⟩ := len_succ hc1
  obtain ⟨c3, cs3, rfl, hc3⟩ := len_succ hc2
  obtain ⟨c4, cs4, rfl, hc4⟩ := len_succ hc3
  obtain rfl := len_zero hc4
  obtain ⟨y0, e0⟩ := get_ok (i := 0) hxl (by decide)
  have f0 := (hf 0 _ rfl).trans e0
  obtain ⟨a0, g0, _, w0⟩ := DataW.trod_int Tryz.underlying3 f0
  have g0' : [c0] = [Value.int .i64 a0] := g0
  cases g0'
  obtain ⟨y1, e1⟩ := get_ok (i := 1) hxl (by decide)
  have f1 := (hf 1 _ rfl).trans e1
  obtain ⟨a1, g1, _, w1⟩ := DataW.trod_int Tryz.underlying3 f1
  have g1' : [c1] = [Value.int .i64 a1] := g1
  cases g1'
  obtain ⟨y2, e2⟩ := get_ok (i := 2) hxl (by decide)
  have f2 := (hf 2 _ rfl).trans e2
  obtain ⟨a2, g2, _, w2⟩ := DataW.trod_int Tryz.underlying3 f2
  have g2' : [c2] = [Value.int .i64 a2] := g2
  cases g2'
  obtain ⟨y3, e3⟩ := get_ok (i := 3) hxl (by decide)
  have f3 := (hf 3 _ rfl).trans e3
  obtain ⟨a3, g3, _, w3⟩ := DataW.trod_int Tryz.underlying3 f3
  have g3' : [c3] = [Value.int .i64 a3] := g3
  cases g3'
  obtain ⟨y4, e4⟩ := get_ok (i := 4) hxl (by decide)
  have f4 := (hf 4 _ rfl).trans e4
  obtain ⟨a4, g4, _, w4⟩ := DataW.trod_int Tryz.underlying3 f4
  have g4' : [c4] = [Value.int .i64 a4] := g4
  cases g4'
  exact ⟨⟨a0, a1, a2, a3, a4⟩, rfl, ⟨in_i64 w0, in_i64 w1, in_i64 w2, in_i64 w3, in_i64 w4⟩⟩
set_option maxRecDepth 100000 in
theorem reads_50 : Reads Tryz.prog 50 tOrder AOrder.wf := by
  intro H enc w base spare held fuel cs x h
  obtain ⟨xs, n, _, _, hlen, hxl, hf⟩ := DataW.trod_struct Tryz.underlying50 h
  have hc : cs.length = 7 := hlen.trans (by kernel_rfl)
  clear hlen
  obtain ⟨c0, cs0, rfl, hc0⟩ := len_succ hc
  obtain ⟨c1, cs1, rfl, hc1⟩ := len_succ hc0
  obtain ⟨c2, cs2, rfl, hc2⟩ := len_succ hc1
  obtain ⟨c3, cs3, rfl, hc3⟩ := len_succ hc2
  obtain ⟨c4, cs4, rfl, hc4⟩ := len_succ hc3
  obtain ⟨c5, cs5, rfl, hc5⟩ := len_succ hc4
  obtain ⟨c6, cs6, rfl, hc6⟩ := len_succ hc5
  obtain rfl := len_zero hc6
  obtain ⟨y0, e0⟩ := get_ok (i := 0) hxl (by decide)
  have f0 := (hf 0 _ rfl).trans e0
  obtain ⟨a0, g0, _, w0⟩ := DataW.trod_int Tryz.underlying3 f0
  have g0' : [c0] = [Value.int .i64 a0] := g0
  cases g0'
  obtain ⟨y1, e1⟩ := get_ok (i := 1) hxl (by decide)
  have f1 := (hf 1 _ rfl).trans e1
  obtain ⟨a1, g1, _, w1⟩ := DataW.trod_int Tryz.underlying3 f1
  have g1' : [c1] = [Value.int .i64 a1] := g1
  cases g1'
  obtain ⟨y2, e2⟩ := get_ok (i := 2) hxl (by decide)
  have f2 := (hf 2 _ rfl).trans e2
  obtain ⟨a2, g2, _, w2⟩ := DataW.trod_int Tryz.underlying3 f2
  have g2' : [c2] = [Value.int .i64 a2] := g2
  cases g2'
  obtain ⟨y3, e3⟩ := get_ok (i := 3) hxl (by decide)
  have f3 := (hf 3 _ rfl).trans e3
  obtain ⟨a3, g3, _, w3⟩ := DataW.trod_int Tryz.underlying48 f3
  have g3' : [c3] = [Value.int .u32 a3] := g3
  cases g3'
  obtain ⟨y4, e4⟩ := get_ok (i := 4) hxl (by decide)
  have f4 := (hf 4 _ rfl).trans e4
  obtain ⟨a4, g4, _, w4⟩ := DataW.trod_int Tryz.underlying3 f4
  have g4' : [c4] = [Value.int .i64 a4] := g4
  cases g4'
  obtain ⟨y5, e5⟩ := get_ok (i := 5) hxl (by decide)
  have f5 := (hf 5 _ rfl).trans e5
  obtain ⟨a5, g5, _, w5⟩ := DataW.trod_int Tryz.underlying3 f5
  have g5' : [c5] = [Value.int .i64 a5] := g5
  cases g5'
  obtain ⟨y6, e6⟩ := get_ok (i := 6) hxl (by decide)
  have f6 := (hf 6 _ rfl).trans e6
  obtain ⟨a6, g6, _, w6⟩ := DataW.trod_int Tryz.underlying3 f6
  have g6' : [c6] = [Value.int .i64 a6] := g6
  cases g6'
  exact ⟨⟨a0, a1, a2, a3, a4, a5, a6⟩, rfl, ⟨in_i64 w0, in_i64 w1, in_i64 w2, in_u32 w3, in_i64 w4, in_i64 w5, in_i64 w6⟩⟩
set_option maxRecDepth 100000 in
theorem reads_31 : Reads Tryz.prog 31 tSoft ASoft.wf := by
  intro H enc w base spare held fuel cs x h
  obtain ⟨xs, n, _, _, hlen, hxl, hf⟩ := DataW.trod_struct Tryz.underlying31 h
  have hc : cs.length = 3 := hlen.trans (by kernel_rfl)
  clear hlen
  obtain ⟨c0, cs0, rfl, hc0⟩ := len_succ hc
  obtain ⟨c1, cs1, rfl, hc1⟩ := len_succ hc0
  obtain ⟨c2, cs2, rfl, hc2⟩ := len_succ hc1
  obtain rfl := len_zero hc2
  obtain ⟨y0, e0⟩ := get_ok (i := 0) hxl (by decide)
  have f0 := (hf 0 _ rfl).trans e0
  obtain ⟨A0, a0, d0, g0, s0, w0⟩ := Reads.slice reads_72 (by kernel_rfl) Tryz.underlying27 f0
  have g0' : [c0] = [Value.slice A0 a0.length d0] := g0
  cases g0'
  obtain ⟨y1, e1⟩ := get_ok (i := 1) hxl (by decide)
  have f1 := (hf 1 _ rfl).trans e1
  obtain ⟨A1, a1, d1, g1, s1, w1⟩ := Reads.slice reads_77 (by kernel_rfl) Tryz.underlying28 f1
  have g1' : [c1] = [Value.slice A1 a1.length d1] := g1
  cases g1'
  obtain ⟨y2, e2⟩ := get_ok (i := 2) hxl (by decide)
  have f2 := (hf 2 _ rfl).trans e2
  obtain ⟨A2, a2, d2, g2, s2, w2⟩ := Reads.slice reads_50 (by kernel_rfl) Tryz.underlying29 f2
  have g2' : [c2] = [Value.slice A2 a2.length d2] := g2
  cases g2'
  exact ⟨⟨a0, a1, a2⟩, ⟨A0, d0, A1, d1, A2, d2, rfl, s0, s1, s2⟩, ⟨w0, w1, w2⟩⟩
set_option maxRecDepth 100000 in
theorem reads_33 : Reads Tryz.prog 33 tRules ARules.wf := by
  intro H enc w base spare held fuel cs x h
  obtain ⟨xs, n, _, _, hlen, hxl, hf⟩ := DataW.trod_struct Tryz.underlying33 h
  have hc : cs.length = 6 := hlen.trans (by kernel_rfl)
  clear hlen
  obtain ⟨c0, cs0, rfl, hc0⟩ := len_succ hc
  obtain ⟨c1, cs1, rfl, hc1⟩ := len_succ hc0
  obtain ⟨c2, cs2, rfl, hc2⟩ := len_succ hc1
  obtain ⟨c3, cs3, rfl, hc3⟩ := len_succ hc2
  obtain ⟨c4, cs4, rfl, hc4⟩ := len_succ hc3
  obtain ⟨c5, cs5, rfl, hc5⟩ := len_succ hc4
  obtain rfl := len_zero hc5
  obtain ⟨y0, e0⟩ := get_ok (i := 0) hxl (by decide)
  have f0 := (hf 0 _ rfl).trans e0
  obtain ⟨a0, g0, _, w0⟩ := DataW.trod_int Tryz.underlying3 f0
  have g0' : [c0] = [Value.int .i64 a0] := g0
  cases g0'
  obtain ⟨y1, e1⟩ := get_ok (i := 1) hxl (by decide)
  have f1 := (hf 1 _ rfl).trans e1
  obtain ⟨a1, g1, _, w1⟩ := DataW.trod_int Tryz.underlying3 f1
  have g1' : [c1] = [Value.int .i64 a1] := g1
  cases g1'
  obtain ⟨y2, e2⟩ := get_ok (i := 2) hxl (by decide)
  have f2 := (hf 2 _ rfl).trans e2
  obtain ⟨a2, g2, _, w2⟩ := DataW.trod_int Tryz.underlying3 f2
  have g2' : [c2] = [Value.int .i64 a2] := g2
  cases g2'
  obtain ⟨y3, e3⟩ := get_ok (i := 3) hxl (by decide)
  have f3 := (hf 3 _ rfl).trans e3
  obtain ⟨a3, g3, _, w3⟩ := DataW.trod_int Tryz.underlying3 f3
  have g3' : [c3] = [Value.int .i64 a3] := g3
  cases g3'
  obtain ⟨y4, e4⟩ := get_ok (i := 4) hxl (by decide)
  have f4 := (hf 4 _ rfl).trans e4
  obtain ⟨a4, g4, _, w4⟩ := DataW.trod_int Tryz.underlying3 f4
  have g4' : [c4] = [Value.int .i64 a4] := g4
  cases g4'
  obtain ⟨y5, e5⟩ := get_ok (i := 5) hxl (by decide)
  have f5 := (hf 5 _ rfl).trans e5
  obtain ⟨a5, g5, _, w5⟩ := DataW.trod_int Tryz.underlying3 f5
  have g5' : [c5] = [Value.int .i64 a5] := g5
  cases g5'
  exact ⟨⟨a0, a1, a2, a3, a4, a5⟩, rfl, ⟨in_i64 w0, in_i64 w1, in_i64 w2, in_i64 w3, in_i64 w4, in_i64 w5⟩⟩
set_option maxRecDepth 100000 in
/-- The law's step: whatever the arguments are, the call returns true, and they read as they did. -/
theorem lifted (os : Os) (started : os.Started) (H : Type) (enc : TypeId × Value → H) :
    ReturnsInHanded {} Tryz.checked os 3 .any (Rows.controlRoundsSpec.pre6 enc Tryz.prog Tryz.f3 Rows.controlRoundsRow.domain false) (Rows.controlRoundsSpec.post enc Tryz.prog Tryz.f3 false true false false) := by
  refine returnsInHanded_of_change (C := Tryz.checked) own started (by kernel_rfl) Tryz.func3
    (ChangeSpec.witness6 (enc := enc) (C := Tryz.checked) false ⟨#[], #[.agg #[.slice none 0 0, .slice none 0 0, .slice none 0 0], .agg #[.slice none 0 0, .slice none 0 0, .slice none 0 0], .agg #[.int .i64 0, .int .i64 0, .int .i64 0, .int .i64 0, .int .i64 0, .int .i64 0], .int .i64 0], []⟩ 8 (by kernel_rfl) (by kernel_rfl) (by kernel_rfl) (by kernel_rfl)) ?_
  intro W base args ds gs before hval0 hW hcnd _
  have hval : ∀ (j : Nat) t v, Tryz.f3.params[j]? = some t → args[j]? = some v → Value.okWide Tryz.prog W .any base t v := hval0
  have hW' := hW
  obtain ⟨p, q, hA0, hV, rfl, hfz, hnd⟩ := hW
  have hA : DataW.TrodAll enc Tryz.prog W 0 (fun _ => true) true Tryz.f3.params.toList args.toList ds p := hA0
  rw [Tryz.params3] at hA hval
  obtain ⟨v0, vs0, d0, ds0, p0, q0, hargs, rfl, rfl, h0, r0⟩ := trodAll_cons hA
  obtain ⟨v1, vs1, d1, ds1, p1, q1, rfl, rfl, rfl, h1, r1⟩ := trodAll_cons r0
  obtain ⟨v2, vs2, d2, ds2, p2, q2, rfl, rfl, rfl, h2, r2⟩ := trodAll_cons r1
  obtain ⟨v3, vs3, d3, ds3, p3, q3, rfl, rfl, rfl, h3, r3⟩ := trodAll_cons r2
  obtain ⟨rfl, rfl, rfl⟩ := trodAll_nil r3
  obtain rfl : args = #[v0, v1, v2, v3] := by cases args; simp_all
  obtain ⟨rfl, rfl⟩ := trodVars_none hV
  have k0 := h0
  have lt0 : ∀ x ∈ p0, x.block < W.heap.size := by obtain ⟨m, hm⟩ := k0; exact DataW.trod_lt m _ _ _ hm
  obtain ⟨x0, cs0, hv0, hR0, g0⟩ := arg_struct reads_26 Tryz.underlying26 (hval 0 26 v0 rfl rfl) h0
  obtain ⟨B0_0, e0_0, B1_0, e1_0, B2_0, e2_0, hR0', u0_0, u1_0, u2_0⟩ := hR0
  subst hR0'
  subst hv0
  have k1 := h1
  have lt1 : ∀ x ∈ p1, x.block < W.heap.size := by obtain ⟨m, hm⟩ := k1; exact DataW.trod_lt m _ _ _ hm
  obtain ⟨x1, cs1, hv1, hR1, g1⟩ := arg_struct reads_31 Tryz.underlying31 (hval 1 31 v1 rfl rfl) h1
  obtain ⟨B0_1, e0_1, B1_1, e1_1, B2_1, e2_1, hR1', u0_1, u1_1, u2_1⟩ := hR1
  subst hR1'
  subst hv1
  have k2 := h2
  have lt2 : ∀ x ∈ p2, x.block < W.heap.size := by obtain ⟨m, hm⟩ := k2; exact DataW.trod_lt m _ _ _ hm
  obtain ⟨x2, cs2, hv2, hR2, g2⟩ := arg_struct reads_33 Tryz.underlying33 (hval 2 33 v2 rfl rfl) h2
  have hR2' : cs2 = x2.enc := hR2
  subst hR2'
  subst hv2
  have k3 := h3
  have lt3 : ∀ x ∈ p3, x.block < W.heap.size := by obtain ⟨m, hm⟩ := k3; exact DataW.trod_lt m _ _ _ hm
  obtain ⟨a3, hv3, _, _, g3⟩ := open_int Tryz.underlying3 (hval 3 3 v3 rfl rfl) h3
  subst hv3
  clear hA0 hval0
  refine Calls.mono (crounds_true (S0 := Any) W x0 u0_0 u1_0 u2_0 x1 u0_1 u1_1 u2_1 x2 a3) fun e W' ⟨v, he, hv, hx⟩ => ?_
  subst hv
  subst he
  have bel := hx.ext.below
  exact ⟨_, rfl, _, _, _, [], _, [], hW', trodAll_mk1 (shut_bool Tryz.underlying4 _), (trodAll_cons_mk (Below.trod laidOut (by kernel_rfl) (of_decide_eq_true (by kernel_rfl)) k0 bel lt0) (trodAll_cons_mk (Below.trod laidOut (by kernel_rfl) (of_decide_eq_true (by kernel_rfl)) k1 bel lt1) (trodAll_cons_mk (Below.trod laidOut (by kernel_rfl) (of_decide_eq_true (by kernel_rfl)) k2 bel lt2) (trodAll_cons_mk (Below.trod laidOut (by kernel_rfl) (of_decide_eq_true (by kernel_rfl)) k3 bel lt3) trodAll_mk0)))), rfl, bel.frame _, fun h => by cases h⟩
theorem proved : Rows.ControlRoundsSaid :=
  OpenClaim.holds_of_wide 3 Tryz.f3 rfl rfl rfl rfl rfl rfl rfl ⟨rfl, rfl, rfl, rfl, rfl⟩ rfl rfl rfl rfl rfl (by kernel_rfl) Tryz.func3 (by kernel_rfl)
    (of_decide_eq_true (by kernel_rfl)) (by unfold Func.isWrapper; first | (rw [if_pos (by decide +kernel)]; kernel_rfl) | (rw [if_neg (by decide +kernel)]; exact ⟨rfl, rfl⟩))
    (fun os started H enc _ => lifted os started H enc)
end Go.Proofs.YtjcklpooaaaglaaGreat.controlRounds
