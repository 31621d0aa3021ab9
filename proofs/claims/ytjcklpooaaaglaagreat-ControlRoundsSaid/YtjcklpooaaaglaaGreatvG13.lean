/- Texts that the statement needs, with short names. -/
import Derived.Test.YtjcklpooaaaglaaGreatvG12
set_option maxRecDepth 4000
set_option linter.all false
namespace Go.Proofs.YtjcklpooaaaglaaGreat
open Go.RowKit
theorem ac9 : aM Tryz.prog 161 := fun _ _ => by kernel_rfl
theorem Xo : aM Tryz.prog 160 := fun _ _ => by kernel_rfl
theorem JU  : Tryz.prog.built 50 [] = some #[.int .i64 0, .int .i64 0, .int .i64 0, .int .u32 0, .int .i64 0, .int .i64 0, .int .i64 0] := by kernel_rfl
theorem Xp : aM Tryz.prog 100 := fun _ _ => by kernel_rfl
theorem JV : aM Tryz.prog 102 := fun _ _ => by kernel_rfl
theorem zY (a0 : Int) (a1 : Int) (a2 : Int) (a3 : Int) : ∀ w, (Instr.buildSlice 51 4 (List.toArray [(0, .int .i64 a0), (1, .int .i64 a1), (2, .int .i64 a2), (3, .int .i64 a3)])).run Tryz.prog w = .ok (.slice (some ⟨w.heap.size, 0, none⟩) 4 4) (w.alloc (.cells (List.toArray [.int .i64 a0, .int .i64 a1, .int .i64 a2, .int .i64 a3]) 3)) := fun _ => by kernel_rfl
theorem Xq : aM Tryz.prog 103 := fun _ _ => by kernel_rfl
theorem CF {S0 : Nat → Prop} (w : World) {Gz : an3} {GA : Nat} {a : List Int} (uD : Sl tInt S0 w Gz GA a) {GD : an3} {GH : Nat} {b : List Int} (uE : Sl tInt S0 w GD GH b) (ha : a.length = 4) (hb : b.length = 4) :
    bY Tryz.prog 103 #[.slice Gz a.length GA, .slice GD b.length GH] w fun v w' => v = .bool (pG a b) ∧ Hp w S0 w' [] := by
 refine WP.enter Tryz.func103 Y Tryz.ntmps103 Y ?_
 have H0 := Hp.init w S0
 have RI := uD.aN
 have RJ := uE.aN
 refine rg <| aR Y <| dn <| WP.seq <| WP.draw (by kernel_rfl) (by kernel_rfl) <| WQ.ev (Ev.move Y) Y ?_
 obtain ⟨x1, hx1⟩ := get_some (xs := a) (i := 0) (by omega)
 refine WQ.ev (Ev.index (i := 0) Tryz.underlying51 iC Y Y Y (aC hx1) ((H0.a uD).some_ hx1)) Y <| WQ.ev (Ev.aZ bf Y ((H0.a uD).aX (j := 0) hx1 Y)) Y ?_
 refine WQ.ev (Ev.move Y) Y ?_
 obtain ⟨x2, hx2⟩ := get_some (xs := b) (i := 0) (by omega)
 refine WQ.ev (Ev.index (i := 0) Tryz.underlying51 iC Y Y Y (aC hx2) ((H0.a uE).some_ hx2)) Y <| WQ.ev (Ev.aZ bf Y ((H0.a uE).aX (j := 0) hx2 Y)) Y ?_
 refine WQ.ev (Ev.neq Y Y) Y ?_
 refine WQ.done fun w1 e1 => ?_
 have K1 := H0.grow e1
 refine WP.aG Y (fun fK => ?_) (fun fK => ?_)
 ·
  replace fK := gJ fK
  refine WP.draw (by kernel_rfl) (by kernel_rfl) <| WQ.ev (Ev.move Y) Y <| WQ.ev (Ev.index (i := 0) Tryz.underlying51 iC Y Y Y (aC hx1) ((K1.a uD).some_ hx1)) Y ?_
  refine WQ.ev (Ev.aZ bf Y ((K1.a uD).aX (j := 0) hx1 Y)) Y <| WQ.ev (Ev.move Y) Y <| WQ.ev (Ev.index (i := 0) Tryz.underlying51 iC Y Y Y (aC hx2) ((K1.a uE).some_ hx2)) Y ?_
  refine WQ.ev (Ev.aZ bf Y ((K1.a uE).aX (j := 0) hx2 Y)) Y <| WQ.ev (Ev.gtr Y Y) Y <| WQ.ev (Ev.assign Y) Y ?_
  refine WQ.done fun w2 e2 => ?_
  have K2 := K1.grow e2
  refine WP.ret (aA.aP (aA.aD Y Y Y ?_))
  have hq1 : (decide (x2 < x1) : Bool) = (pG a b) := by unfold pG yV; simp_all [List.getD]
  exact ⟨by rw [hq1] <;> rfl, K2⟩
 replace fK := gD fK
 refine WP.skip (aA.norm ?_)
 refine WP.seq <| WP.draw (by kernel_rfl) (by kernel_rfl) <| WQ.ev (Ev.move Y) Y ?_
 obtain ⟨x3, hx3⟩ := get_some (xs := a) (i := 1) (by omega)
 refine WQ.ev (Ev.index (i := 1) Tryz.underlying51 iC Y Y Y (aC hx3) ((K1.a uD).some_ hx3)) Y <| WQ.ev (Ev.aZ bf Y ((K1.a uD).aX (j := 0) hx3 Y)) Y ?_
 refine WQ.ev (Ev.move Y) Y ?_
 obtain ⟨x4, hx4⟩ := get_some (xs := b) (i := 1) (by omega)
 refine WQ.ev (Ev.index (i := 1) Tryz.underlying51 iC Y Y Y (aC hx4) ((K1.a uE).some_ hx4)) Y <| WQ.ev (Ev.aZ bf Y ((K1.a uE).aX (j := 0) hx4 Y)) Y ?_
 refine WQ.ev (Ev.neq Y Y) Y ?_
 refine WQ.done fun w3 e3 => ?_
 have K3 := K1.grow e3
 refine WP.aG Y (fun hc25 => ?_) (fun hc25 => ?_)
 ·
  replace hc25 := gJ hc25
  refine WP.draw (by kernel_rfl) (by kernel_rfl) <| WQ.ev (Ev.move Y) Y <| WQ.ev (Ev.index (i := 1) Tryz.underlying51 iC Y Y Y (aC hx3) ((K3.a uD).some_ hx3)) Y ?_
  refine WQ.ev (Ev.aZ bf Y ((K3.a uD).aX (j := 0) hx3 Y)) Y <| WQ.ev (Ev.move Y) Y <| WQ.ev (Ev.index (i := 1) Tryz.underlying51 iC Y Y Y (aC hx4) ((K3.a uE).some_ hx4)) Y ?_
  refine WQ.ev (Ev.aZ bf Y ((K3.a uE).aX (j := 0) hx4 Y)) Y <| WQ.ev (Ev.gtr Y Y) Y <| WQ.ev (Ev.assign Y) Y ?_
  refine WQ.done fun w4 e4 => ?_
  have K4 := K3.grow e4
  refine WP.ret (aA.aP (aA.aD Y Y Y ?_))
  have hq2 : (decide (x4 < x3) : Bool) = (pG a b) := by unfold pG yV; simp_all [List.getD]
  exact ⟨by rw [hq2] <;> rfl, K4⟩
 replace hc25 := gD hc25
 refine WP.skip (aA.norm ?_)
 refine WP.seq <| WP.draw (by kernel_rfl) (by kernel_rfl) <| WQ.ev (Ev.move Y) Y ?_
 obtain ⟨x5, hx5⟩ := get_some (xs := a) (i := 2) (by omega)
 refine WQ.ev (Ev.index (i := 2) Tryz.underlying51 iC Y Y Y (aC hx5) ((K3.a uD).some_ hx5)) Y <| WQ.ev (Ev.aZ bf Y ((K3.a uD).aX (j := 0) hx5 Y)) Y ?_
 refine WQ.ev (Ev.move Y) Y ?_
 obtain ⟨x6, hx6⟩ := get_some (xs := b) (i := 2) (by omega)
 refine WQ.ev (Ev.index (i := 2) Tryz.underlying51 iC Y Y Y (aC hx6) ((K3.a uE).some_ hx6)) Y <| WQ.ev (Ev.aZ bf Y ((K3.a uE).aX (j := 0) hx6 Y)) Y ?_
 refine WQ.ev (Ev.neq Y Y) Y ?_
 refine WQ.done fun w5 e5 => ?_
 have K5 := K3.grow e5
 refine WP.aG Y (fun hc39 => ?_) (fun hc39 => ?_)
 ·
  replace hc39 := gJ hc39
  refine WP.draw (by kernel_rfl) (by kernel_rfl) <| WQ.ev (Ev.move Y) Y <| WQ.ev (Ev.index (i := 2) Tryz.underlying51 iC Y Y Y (aC hx5) ((K5.a uD).some_ hx5)) Y ?_
  refine WQ.ev (Ev.aZ bf Y ((K5.a uD).aX (j := 0) hx5 Y)) Y <| WQ.ev (Ev.move Y) Y <| WQ.ev (Ev.index (i := 2) Tryz.underlying51 iC Y Y Y (aC hx6) ((K5.a uE).some_ hx6)) Y ?_
  refine WQ.ev (Ev.aZ bf Y ((K5.a uE).aX (j := 0) hx6 Y)) Y <| WQ.ev (Ev.lss Y Y) Y <| WQ.ev (Ev.assign Y) Y ?_
  refine WQ.done fun w6 e6 => ?_
  have K6 := K5.grow e6
  refine WP.ret (aA.aP (aA.aD Y Y Y ?_))
  have hq3 : (decide (x5 < x6) : Bool) = (pG a b) := by unfold pG yV; simp_all [List.getD]
  exact ⟨by rw [hq3] <;> rfl, K6⟩
 replace hc39 := gD hc39
 refine WP.skip (aA.norm ?_)
 refine WP.draw (by kernel_rfl) (by kernel_rfl) <| WQ.ev (Ev.move Y) Y ?_
 obtain ⟨x7, hx7⟩ := get_some (xs := a) (i := 3) (by omega)
 refine WQ.ev (Ev.index (i := 3) Tryz.underlying51 iC Y Y Y (aC hx7) ((K5.a uD).some_ hx7)) Y <| WQ.ev (Ev.aZ bf Y ((K5.a uD).aX (j := 0) hx7 Y)) Y ?_
 refine WQ.ev (Ev.move Y) Y ?_
 obtain ⟨x8, hx8⟩ := get_some (xs := b) (i := 3) (by omega)
 refine WQ.ev (Ev.index (i := 3) Tryz.underlying51 iC Y Y Y (aC hx8) ((K5.a uE).some_ hx8)) Y <| WQ.ev (Ev.aZ bf Y ((K5.a uE).aX (j := 0) hx8 Y)) Y ?_
 refine WQ.ev (Ev.lss Y Y) Y <| WQ.ev (Ev.assign Y) Y ?_
 refine WQ.done fun w7 e7 => ?_
 have K7 := K5.grow e7
 refine WP.ret (aA.aD Y Y Y ?_)
 have hq4 : (decide (x7 < x8) : Bool) = (pG a b) := by unfold pG yV; simp_all [List.getD]
 exact ⟨by rw [hq4] <;> rfl, K7⟩
theorem r9 {S0 : Nat → Prop} (w : World) {eB : an3} {eD : Nat} {au : List AChunk} (eF : Sl tChunk S0 w eB eD au) {eY : an3} {eZ : Nat} {ak : List ANode} (dU : Sl tNode S0 w eY eZ ak) (fr : Int) (dM : Int) (hm : jA au = true) (ht : 1 ≤ dM ∧ dM ≤ 16) :
    bY Tryz.prog 102 #[.slice eB au.length eD, .slice eY ak.length eZ, .int .i64 fr, .int .i64 dM] w fun v w' => v = .tuple #[.agg #[.int .i64 (((bG au ak fr dM).getD ⟨0, 0, 0, 0, 0, 0, 0⟩).Kind), .int .i64 (((bG au ak fr dM).getD ⟨0, 0, 0, 0, 0, 0, 0⟩).aB), .int .i64 (((bG au ak fr dM).getD ⟨0, 0, 0, 0, 0, 0, 0⟩).ay), .int .u32 (((bG au ak fr dM).getD ⟨0, 0, 0, 0, 0, 0, 0⟩).Sum), .int .i64 (((bG au ak fr dM).getD ⟨0, 0, 0, 0, 0, 0, 0⟩).dw), .int .i64 (((bG au ak fr dM).getD ⟨0, 0, 0, 0, 0, 0, 0⟩).To), .int .i64 (((bG au ak fr dM).getD ⟨0, 0, 0, 0, 0, 0, 0⟩).dQ)], .bool ((bG au ak fr dM).isSome)] ∧ Hp w S0 w' [] := by
 refine WP.enter Tryz.func102 Y Tryz.ntmps102 Y ?_
 have H0 := Hp.init w S0
 have oL := eF.aN
 have mU := dU.aN
 refine rg ?_
 refine al jM Y H0 fun g1 w1 K1 => ?_
 refine aR Y <| dn <| WP.seq <| rg <| aR Y <| dn <| WP.block <| WP.lp (fun mJ lJ wJ => ∃ (k : Nat), lJ = [(0, .slice eB au.length eD), (1, .slice eY ak.length eZ), (2, .int .i64 fr), (3, .int .i64 dM), (8, .pointer (some ⟨g1, 0, none⟩)), (10, .int .i64 ((k : Nat) : Int))] ∧ mJ = au.length - k ∧ k ≤ au.length ∧ (∀ c ∈ au.take k, jB c ak fr dM = false) ∧ Hp w S0 wJ [dG g1 50 [.int .i64 0, .int .i64 0, .int .i64 0, .int .u32 0, .int .i64 0, .int .i64 0, .int .i64 0]]) ⟨0, Y, Y, Nat.zero_le _, by simp, K1⟩ rfl ?_
 rintro _ _ w2 ⟨k, rfl, rfl, hk, hno, K2⟩
 refine WP.seq <| rg <| mv Y <| mv Y <| ev (Ev.len Tryz.underlying23 Y) <| ev (Ev.lss Y Y) <| dn ?_
 refine WP.aG Y (fun hc17 => ?_) (fun hc17 => ?_)
 ·
  replace hc17 := of_decide_eq_true hc17
  refine WP.skip (aA.norm ?_)
  refine WP.seq <| WP.block <| rg <| mv Y <| mv Y ?_
  obtain ⟨x1, hx1⟩ := get_some (xs := au) (i := k) (by omega)
  refine ev (Ev.index (i := k) Tryz.underlying23 gu Y Y Y (aC hx1) ((K2.a eF).some_ hx1)) ?_
  obtain ⟨B1, d1, kL, hi1⟩ := AChunk.op (eF.row hx1)
  refine ev (Ev.loadRow (cs := [.int .i64 x1.ID, .int .i64 x1.ay, .int .u32 x1.Sum, .slice B1 x1.av.length d1]) gQ Y Y (oJ (fun j u hu => K2.ext.cell (kL j u hu)))) ?_
  refine al iI Y K2 fun g2 w3 K3 => ?_
  refine iW Y Y Y gu K3 s0 Y Y fun w4 K4 => ?_
  refine dn <| rg <| ev (Ev.field (q := ⟨g2, 3, none⟩) fT Y Y) <| ev (Ev.aj gK Y (K4.x s0) Y) <| mv Y ?_
  refine C0 K4 Y Y Y Cm (nQ _ (K4.a hi1).any fr) fun w5 K5 => ?_
  refine aR Y <| dn <| rg <| ev (Ev.field (q := ⟨g2, 3, none⟩) fT Y Y) <| ev (Ev.aj gK Y (K5.x s0) Y) <| mv Y ?_
  refine C0 K5 Y Y Y Cm (nQ _ (K5.a hi1).any dM) fun w6 K6 => ?_
  refine aR Y <| dn ?_
  have hr1 := (qo (IW hm _ (bV hx1))).2.2
  refine He K6 (fun _ K => K) (fun l0 rk lJ wJ => lJ = (50, .bool (jB x1 ak fr dM)) :: l0 ∧ Hp w S0 wJ rk) (fun hns H1 => ?_) ?_
  ·
   refine Tm 0 1 hns Y Y H1 <| Tm 1 3 hns Y Y H1 ?_
   cases CS : x1.av.contains fr with
   | true =>
    refine Tg 2 7 hns Y Y (fun _ _ => Ev.move Y) H1 <| Tg 3 15 hns Y Y (fun _ _ => Ev.not Y) H1 <| Tn 4 31 hns Y (fun _ _ => Ev.bq Y Y) H1 <| Tm 5 63 hns Y Y H1 ?_
    cases yQ : (!(x1.av.contains dM)) with
    | true =>
     refine Tg 6 127 hns Y Y (fun _ _ => Ev.move Y) H1 <| Tg 7 255 hns Y Y (fun _ _ => Ev.field (q := ⟨g2, 3, none⟩) fT Y Y) H1 <| Tg 8 511 hns Y Y (fun _ hK => Ev.aj gK Y (hK.x s0) Y) H1 ?_
     refine Tg 9 1023 hns Y Y (fun _ _ => Ev.move Y) H1 <| Tg 10 2047 hns Y Y (fun _ _ => Ev.move Y) H1 <| Tg 13 10239 hns Y Y (fun _ _ => Ev.move Y) H1 ?_
     refine Tg 14 26623 hns Y Y (fun _ _ => Ev.field (q := ⟨g2, 3, none⟩) fT Y Y) H1 <| Tg 15 59391 hns Y Y (fun _ hK => Ev.aj gK Y (hK.x s0) Y) H1 ?_
     refine O1 11 Y <| WL.jd Y Y Y Y ac9 (Gj _ (H1.a hi1).any fr dM) Y ?_
     rintro _ w7 ⟨Ze, Zf, rfl, h7⟩
     have K7 := H1.f1 h7
     have aga := (K7.o s0).aN
     have k1 := (K7.rm s0)
     refine WH.next k1 <| O1 12 Y <| WL.jd Y Y Y Y Xo (CB _ (K7.a dU).any (K7.o s0)) Y ?_
     rintro _ w8 ⟨rfl, h8⟩
     have K8 := K7.c0 h8
     have k2 := (K8.rm s0)
     refine WH.next k2 <| O1 16 Y <| WL.jd Y Y Y Y Xo (CB _ (K8.a dU).any (K8.a hi1).any) Y ?_
     rintro _ w9 ⟨rfl, h9⟩
     have K9 := K8.c0 h9
     have k3 := (K9.rm s0)
     refine WH.next k3 <| Tg 17 262143 hns Y Y (fun _ _ => Ev.geq Y Y) k3 <| Tn 18 524287 hns Y (fun _ _ => Ev.bq Y Y) k3 ?_
     have hq1 : (decide (((nV ak x1.av : Nat) : Int) ≤ ((nV ak (iD (swB x1.av fr dM) 16) : Nat) : Int)) : Bool) = jB x1 ak fr dM := by first | (rw [Pg CS yQ, BH hr1 ht.1 ht.2 (BI yQ)]; exact decide_eq_decide.2 (by omega)) | exact JQ yQ | exact JO CS
     refine WH.re2 (t := 50) Y (congrArg Value.bool hq1) ?_
     exact Dn ⟨Y, (K9.rm s0)⟩ Y
    | false =>
     refine Tp 6 127 hns Y Y Y H1 <| Tp 7 255 hns Y Y Y H1 <| Tp 8 511 hns Y Y Y H1 <| Tp 9 1023 hns Y Y Y H1 <| Tp 10 2047 hns Y Y Y H1 <| Tp 13 10239 hns Y Y Y H1 <| Tp 14 26623 hns Y Y Y H1 <| Tp 15 59391 hns Y Y Y H1 <| O1 11 Y <| WL.pass Y Y Y <| WH.next H1 <| O1 12 Y <| WL.pass Y Y Y <| WH.next H1 <| O1 16 Y <| WL.pass Y Y Y <| WH.next H1 <| Tp 17 262143 hns Y Y Y H1 <| Tn 18 524287 hns Y (fun _ _ => Ev.bn Y Y) H1 ?_
     have hq2 : (false : Bool) = jB x1 ak fr dM := by first | (rw [Pg CS yQ, BH hr1 ht.1 ht.2 (BI yQ)]; exact decide_eq_decide.2 (by omega)) | exact JQ yQ | exact JO CS
     refine WH.re2 (t := 50) Y (congrArg Value.bool hq2) ?_
     exact Dn ⟨Y, H1⟩ Y
   | false =>
    refine Tp 2 7 hns Y Y Y H1 <| Tp 3 15 hns Y Y Y H1 <| Tn 4 31 hns Y (fun _ _ => Ev.bn Y Y) H1 <| Tm 5 63 hns Y Y H1 <| Tp 6 127 hns Y Y Y H1 <| Tp 7 255 hns Y Y Y H1 <| Tp 8 511 hns Y Y Y H1 <| Tp 9 1023 hns Y Y Y H1 <| Tp 10 2047 hns Y Y Y H1 <| Tp 13 10239 hns Y Y Y H1 <| Tp 14 26623 hns Y Y Y H1 <| Tp 15 59391 hns Y Y Y H1 <| O1 11 Y <| WL.pass Y Y Y <| WH.next H1 <| O1 12 Y <| WL.pass Y Y Y ?_
    refine WH.next H1 <| O1 16 Y <| WL.pass Y Y Y <| WH.next H1 <| Tp 17 262143 hns Y Y Y H1 <| Tn 18 524287 hns Y (fun _ _ => Ev.bn Y Y) H1 ?_
    have hq3 : (false : Bool) = jB x1 ak fr dM := by first | (rw [Pg CS yQ, BH hr1 ht.1 ht.2 (BI yQ)]; exact decide_eq_decide.2 (by omega)) | exact JQ yQ | exact JO CS
    refine WH.re2 (t := 50) Y (congrArg Value.bool hq3) ?_
    exact Dn ⟨Y, H1⟩ Y
  rintro _ J8 ⟨rfl, K10⟩
  refine WP.aG Y (fun tX => ?_) (fun tX => ?_)
  ·
   refine rg <| ev (Ev.field (q := ⟨g2, 0, none⟩) gI Y Y) <| ev (Ev.aj bf Y (K10.x s0) Y) <| ev (Ev.field (q := ⟨g2, 1, none⟩) kZ Y Y) ?_
   refine ev (Ev.aj bf Y (K10.x s0) Y) <| ev (Ev.field (q := ⟨g2, 2, none⟩) rH Y Y) <| ev (Ev.aj BP Y (K10.x s0) Y) <| mv Y ?_
   refine mv Y <| ev (Ev.build (vs := [(0, .int .i64 0), (1, .int .i64 x1.ID), (2, .int .i64 x1.ay), (3, .int .u32 x1.Sum), (4, .int .i64 fr), (5, .int .i64 dM)]) (cs := [.int .i64 0, .int .i64 x1.ID, .int .i64 x1.ay, .int .u32 x1.Sum, .int .i64 fr, .int .i64 dM, .int .i64 0]) Y (by apply nN)) ?_
   refine iW Y Y Y gW K10 s1 Y Y fun Om qb => ?_
   refine aR Y <| dn ?_
   refine WP.ret (aA.bW (aA.aP (aA.aP (aA.bW (aA.aP (aA.oG Y ⟨_, _, Y, ⟨_, Y, eH (cs := [.int .i64 0, .int .i64 x1.ID, .int .i64 x1.ay, .int .u32 x1.Sum, .int .i64 fr, .int .i64 dM, .int .i64 0]) jV Y (qb.x s0)⟩, ⟨_, _, Y, Y, Y⟩⟩ ?_))))))
   have hq4 : ((⟨0, x1.ID, x1.ay, x1.Sum, fr, dM, 0⟩ : AOrder) : AOrder) = ((bG au ak fr dM).getD ⟨0, 0, 0, 0, 0, 0, 0⟩) := by rw [Ii hno hx1 tX]; rfl
   have kP : (0 : Int) = ((bG au ak fr dM).getD ⟨0, 0, 0, 0, 0, 0, 0⟩).Kind := by rw [← hq4]
   have ny : (x1.ID : Int) = ((bG au ak fr dM).getD ⟨0, 0, 0, 0, 0, 0, 0⟩).aB := by rw [← hq4]
   have kT : (x1.ay : Int) = ((bG au ak fr dM).getD ⟨0, 0, 0, 0, 0, 0, 0⟩).ay := by rw [← hq4]
   have hq8 : (x1.Sum : Int) = ((bG au ak fr dM).getD ⟨0, 0, 0, 0, 0, 0, 0⟩).Sum := by rw [← hq4]
   have uj : (fr : Int) = ((bG au ak fr dM).getD ⟨0, 0, 0, 0, 0, 0, 0⟩).dw := by rw [← hq4]
   have jK : (dM : Int) = ((bG au ak fr dM).getD ⟨0, 0, 0, 0, 0, 0, 0⟩).To := by rw [← hq4]
   have hq11 : (0 : Int) = ((bG au ak fr dM).getD ⟨0, 0, 0, 0, 0, 0, 0⟩).dQ := by rw [← hq4]
   have hq12 : (true : Bool) = ((bG au ak fr dM).isSome) := by rw [Ii hno hx1 tX]; rfl
   exact ⟨by rw [ny, kT, hq8, ← kP, ← uj, ← jK, ← hq11, ← hq12] <;> rfl, qb.z⟩
  refine WP.skip (aA.aS (aA.norm ?_))
  refine eP <| mv Y <| ev (Ev.add Y Y (eX.mk (by omega) (by omega))) <| aR Y <| eT ?_
  exact aA.ag ⟨(k + 1), Y, Y, by omega, by exact gP (q := fun c => jB c ak fr dM = false) hno hx1 tX, (K10.rm s0)⟩ rfl (by omega)
 replace hc17 := of_decide_eq_false hc17
 refine WP.exit (aA.aF (aA.aF (aA.bS (aA.norm ?_))))
 refine rg <| ev (Ev.build (vs := []) (cs := [.int .i64 0, .int .i64 0, .int .i64 0, .int .u32 0, .int .i64 0, .int .i64 0, .int .i64 0]) Y (by apply JU)) ?_
 refine iW Y Y Y gW K2 s0 Y Y fun Le oH => ?_
 refine aR Y <| dn ?_
 refine WP.ret (aA.oG Y ⟨_, _, Y, ⟨_, Y, eH (cs := [.int .i64 0, .int .i64 0, .int .i64 0, .int .u32 0, .int .i64 0, .int .i64 0, .int .i64 0]) jV Y (oH.x s0)⟩, ⟨_, _, Y, Y, Y⟩⟩ ?_)
 have qY : ((⟨0, 0, 0, 0, 0, 0, 0⟩ : AOrder) : AOrder) = ((bG au ak fr dM).getD ⟨0, 0, 0, 0, 0, 0, 0⟩) := by rw [Ij (jf hno (by omega))]; rfl
 have Bf : (0 : Int) = ((bG au ak fr dM).getD ⟨0, 0, 0, 0, 0, 0, 0⟩).Kind := by rw [← qY]
 have Eb : (0 : Int) = ((bG au ak fr dM).getD ⟨0, 0, 0, 0, 0, 0, 0⟩).aB := by rw [← qY]
 have Ec : (0 : Int) = ((bG au ak fr dM).getD ⟨0, 0, 0, 0, 0, 0, 0⟩).ay := by rw [← qY]
 have Ed : (0 : Int) = ((bG au ak fr dM).getD ⟨0, 0, 0, 0, 0, 0, 0⟩).Sum := by rw [← qY]
 have CQ : (0 : Int) = ((bG au ak fr dM).getD ⟨0, 0, 0, 0, 0, 0, 0⟩).dw := by rw [← qY]
 have Bg : (0 : Int) = ((bG au ak fr dM).getD ⟨0, 0, 0, 0, 0, 0, 0⟩).To := by rw [← qY]
 have Lh : (0 : Int) = ((bG au ak fr dM).getD ⟨0, 0, 0, 0, 0, 0, 0⟩).dQ := by rw [← qY]
 have Ot : (false : Bool) = ((bG au ak fr dM).isSome) := by rw [Ij (jf hno (by omega))]; rfl
 exact ⟨by rw [← Bf, ← Eb, ← Ec, ← Ed, ← CQ, ← Bg, ← Lh, ← Ot] <;> rfl, (oH.rm s0)⟩
set_option maxHeartbeats 4000000 in
theorem Fv {S0 : Nat → Prop} (w : World) {eB : an3} {eD : Nat} {au : List AChunk} (eF : Sl tChunk S0 w eB eD au) {eY : an3} {eZ : Nat} {ak : List ANode} (dU : Sl tNode S0 w eY eZ ak) {cZ : an3} {dh : Nat} {ah : List Int} (cu : Sl tInt S0 w cZ dh ah) (bE : Int) (hn : ak.length ≤ 100000) :
    bY Tryz.prog 48 #[.slice eB au.length eD, .slice eY ak.length eZ, .slice cZ ah.length dh, .int .i64 bE] w fun v w' => v = .tuple #[.agg #[.int .i64 ((aV au ak ah bE).Kind), .int .i64 ((aV au ak ah bE).aB), .int .i64 ((aV au ak ah bE).ay), .int .u32 ((aV au ak ah bE).Sum), .int .i64 ((aV au ak ah bE).dw), .int .i64 ((aV au ak ah bE).To), .int .i64 ((aV au ak ah bE).dQ)], .bool (moveB au ak ah bE)] ∧ Hp w S0 w' [] := by
 refine WP.enter Tryz.func48 Y Tryz.ntmps48 Y ?_
 have H0 := Hp.init w S0
 have oL := eF.aN
 have mU := dU.aN
 have iy := cu.aN
 refine rg ?_
 refine al jM Y H0 fun g1 w1 K1 => ?_
 refine aR Y <| dn <| rg <| mv Y ?_
 refine C0 K1 Y Y Y Xb (BF _ (K1.a eF).any) fun w2 K2 => ?_
 refine aR Y <| dn <| WP.seq <| rg <| mv Y <| ev (Ev.not Y) <| dn ?_
 refine WP.aG Y (fun hc24 => ?_) (fun hc24 => ?_)
 ·
  try simp only [an4, an5, an6, an7, an8, an9, aoa, aob] at hc24
  have hmn : jA au = false := by simpa using hc24
  refine rg <| ev (Ev.build (vs := []) (cs := [.int .i64 0, .int .i64 0, .int .i64 0, .int .u32 0, .int .i64 0, .int .i64 0, .int .i64 0]) Y (by apply JU)) ?_
  refine iW Y Y Y gW K2 s0 Y Y fun w3 K3 => ?_
  refine aR Y <| dn ?_
  refine WP.ret (aA.aP (aA.oG Y ⟨_, _, Y, ⟨_, Y, eH (cs := [.int .i64 0, .int .i64 0, .int .i64 0, .int .u32 0, .int .i64 0, .int .i64 0, .int .i64 0]) jV Y (K3.x s0)⟩, ⟨_, _, Y, Y, Y⟩⟩ ?_))
  have hq1 : ((⟨0, 0, 0, 0, 0, 0, 0⟩ : AOrder) : AOrder) = (aV au ak ah bE) := by unfold aV; rw [if_neg (by rw [hmn]; decide)]
  have hq2 : (0 : Int) = (aV au ak ah bE).Kind := by rw [← hq1]
  have hq3 : (0 : Int) = (aV au ak ah bE).aB := by rw [← hq1]
  have hq4 : (0 : Int) = (aV au ak ah bE).ay := by rw [← hq1]
  have kP : (0 : Int) = (aV au ak ah bE).Sum := by rw [← hq1]
  have ny : (0 : Int) = (aV au ak ah bE).dw := by rw [← hq1]
  have kT : (0 : Int) = (aV au ak ah bE).To := by rw [← hq1]
  have hq8 : (0 : Int) = (aV au ak ah bE).dQ := by rw [← hq1]
  have uj : (false : Bool) = (moveB au ak ah bE) := by unfold moveB aV; rw [if_neg (by rw [hmn]; decide)]; rfl
  exact ⟨by rw [← hq2, ← hq3, ← hq4, ← kP, ← ny, ← kT, ← hq8, ← uj] <;> rfl, (K3.rm s0)⟩
 try simp only [an4, an5, an6, an7, an8, an9, aoa, aob] at hc24
 refine WP.skip (aA.norm ?_)
 refine WP.seq ?_
 have hmay : jA au = true := by simpa using hc24
 refine rg <| mv Y <| ev (Ev.lss Y Y) <| dn ?_
 refine WP.aG Y (fun hc27 => ?_) (fun hc27 => ?_)
 ·
  replace hc27 := of_decide_eq_true hc27
  refine eP <| aR Y <| eT <| aA.norm <| WP.re (t := 3) (u := .int .i64 1) Y (congrArg (Value.int .i64) (show (1 : Int) = (if 1 > bE then 1 else bE) by first | rw [if_pos (by omega)] | rw [if_neg (by omega)])) <| rg <| mv rfl <| mv rfl <| WL.call rfl rfl rfl Xp (Il _ (K2.a dU).any (K2.a cu).any (by omega)) rfl ?_
  rintro _ w4 ⟨sG, sH, rfl, h4⟩
  have K4 := K2.f1 h4
  have GX := (K4.o s0).aN
  refine aR Y <| dn <| rg <| aR Y <| dn <| rg <| ev (Ev.build (vs := []) (cs := [.int .i64 0, .int .i64 0, .int .i64 0, .int .u32 0, .int .i64 0, .int .i64 0, .int .i64 0]) Y (by apply JU)) ?_
  refine al jM Y K4 fun g2 w5 K5 => ?_
  refine iW Y Y Y gW K5 s0 Y Y fun w6 K6 => ?_
  refine dn <| WP.seq <| rg <| aR Y <| dn <| WP.block ?_
  have H1 := K6.nil tInt 3
  have jK : (([] : List Int) : List Int) = (gZ au (foldM au ak bE (bB ((aU ak ah).take 0) (aU ak ah)))) := by rfl
  refine WP.re (t := 12) Y (congrArg (fun z => Value.slice none (List.length z) 0) jK) ?_
  have H2 := H1.nil tInt 3
  have H3 := (jK ▸ H2 : Hp w S0 w6 (aQ tInt 3 none 0 (gZ au (foldM au ak bE (bB ((aU ak ah).take 0) (aU ak ah)))) :: [aQ tInt 3 none 0 [], dG g2 50 [.int .i64 0, .int .i64 0, .int .i64 0, .int .u32 0, .int .i64 0, .int .i64 0, .int .i64 0], aQ tNode 63 sG sH (aU ak ah), dG g1 50 [.int .i64 0, .int .i64 0, .int .i64 0, .int .u32 0, .int .i64 0, .int .i64 0, .int .i64 0]]))
  have hq11 : (.int .i64 0 : Value) = .int .i64 ((dF au ak bE (foldM au ak bE (bB ((aU ak ah).take 0) (aU ak ah)))).Kind) := by rfl
  try rw [hq11] at H3
  have hq12 : (.int .i64 0 : Value) = .int .i64 ((dF au ak bE (foldM au ak bE (bB ((aU ak ah).take 0) (aU ak ah)))).aB) := by rfl
  try rw [hq12] at H3
  have qY : (.int .i64 0 : Value) = .int .i64 ((dF au ak bE (foldM au ak bE (bB ((aU ak ah).take 0) (aU ak ah)))).ay) := by rfl
  try rw [qY] at H3
  have Bf : (.int .u32 0 : Value) = .int .u32 ((dF au ak bE (foldM au ak bE (bB ((aU ak ah).take 0) (aU ak ah)))).Sum) := by rfl
  try rw [Bf] at H3
  have Eb : (.int .i64 0 : Value) = .int .i64 ((dF au ak bE (foldM au ak bE (bB ((aU ak ah).take 0) (aU ak ah)))).dw) := by rfl
  try rw [Eb] at H3
  have Ec : (.int .i64 0 : Value) = .int .i64 ((dF au ak bE (foldM au ak bE (bB ((aU ak ah).take 0) (aU ak ah)))).To) := by rfl
  try rw [Ec] at H3
  have Ed : (.int .i64 0 : Value) = .int .i64 ((dF au ak bE (foldM au ak bE (bB ((aU ak ah).take 0) (aU ak ah)))).dQ) := by rfl
  try rw [Ed] at H3
  refine WP.lp (fun mJ lJ wJ => ∃ (k : Nat) (xg : an3) (c12 : Nat), lJ = [(0, .slice eB au.length eD), (1, .slice eY ak.length eZ), (3, .int .i64 (if 1 > bE then 1 else bE)), (8, .pointer (some ⟨g1, 0, none⟩)), (11, .slice sG ((aU ak ah).length) sH), (12, .slice xg ((gZ au (foldM au ak bE (bB ((aU ak ah).take k) (aU ak ah)))).length) c12), (13, .pointer (some ⟨g2, 0, none⟩)), (14, .int .i64 ((k : Nat) : Int))] ∧ mJ = (aU ak ah).length - k ∧ k ≤ (aU ak ah).length ∧ Hp w S0 wJ [aQ tInt 3 xg c12 (gZ au (foldM au ak bE (bB ((aU ak ah).take k) (aU ak ah)))), dG g2 50 [.int .i64 ((dF au ak bE (foldM au ak bE (bB ((aU ak ah).take k) (aU ak ah)))).Kind), .int .i64 ((dF au ak bE (foldM au ak bE (bB ((aU ak ah).take k) (aU ak ah)))).aB), .int .i64 ((dF au ak bE (foldM au ak bE (bB ((aU ak ah).take k) (aU ak ah)))).ay), .int .u32 ((dF au ak bE (foldM au ak bE (bB ((aU ak ah).take k) (aU ak ah)))).Sum), .int .i64 ((dF au ak bE (foldM au ak bE (bB ((aU ak ah).take k) (aU ak ah)))).dw), .int .i64 ((dF au ak bE (foldM au ak bE (bB ((aU ak ah).take k) (aU ak ah)))).To), .int .i64 ((dF au ak bE (foldM au ak bE (bB ((aU ak ah).take k) (aU ak ah)))).dQ)], aQ tNode 63 sG sH (aU ak ah), dG g1 50 [.int .i64 0, .int .i64 0, .int .i64 0, .int .u32 0, .int .i64 0, .int .i64 0, .int .i64 0]]) ⟨0, none, 0, Y, Y, Nat.zero_le _, (H3.rm s1)⟩ Y ?_
  rintro _ _ w7 ⟨k, xg, c12, rfl, rfl, hk, K7⟩
  refine WP.seq <| rg <| mv Y <| mv Y <| ev (Ev.len Tryz.underlying22 Y) <| ev (Ev.lss Y Y) <| dn ?_
  refine WP.aG Y (fun kX => ?_) (fun kX => ?_)
  ·
   replace kX := of_decide_eq_true kX
   refine WP.skip (aA.norm ?_)
   refine WP.seq <| WP.block <| rg <| aR Y <| dn <| WP.block ?_
   obtain ⟨x1, hx1⟩ := get_some (xs := aU ak ah) (i := k) (by omega)
   have CQ : ((gZ au (foldM au ak bE (bB ((aU ak ah).take k) (aU ak ah)))) : List Int) = (gZ au (foldM au ak bE ((bB ((aU ak ah).take k) (aU ak ah)) ++ ((aU ak ah).take 0).map (fun y => (x1, y))))) := by rw [List.take_zero, List.map_nil, List.append_nil]
   refine WP.re (t := 12) Y (congrArg (fun z => Value.slice xg (List.length z) c12) CQ) ?_
   rw [CQ] at K7
   have Bg : (dF au ak bE (foldM au ak bE (bB ((aU ak ah).take k) (aU ak ah)))) = (dF au ak bE (foldM au ak bE ((bB ((aU ak ah).take k) (aU ak ah)) ++ ((aU ak ah).take 0).map (fun y => (x1, y))))) := by rw [List.take_zero, List.map_nil, List.append_nil]
   rw [Bg] at K7
   refine WP.lp (fun mJ lJ wJ => ∃ (k2 : Nat) (xg : an3) (c12 : Nat), lJ = [(0, .slice eB au.length eD), (1, .slice eY ak.length eZ), (3, .int .i64 (if 1 > bE then 1 else bE)), (8, .pointer (some ⟨g1, 0, none⟩)), (11, .slice sG ((aU ak ah).length) sH), (12, .slice xg ((gZ au (foldM au ak bE ((bB ((aU ak ah).take k) (aU ak ah)) ++ ((aU ak ah).take k2).map (fun y => (x1, y))))).length) c12), (13, .pointer (some ⟨g2, 0, none⟩)), (14, .int .i64 ((k : Nat) : Int)), (15, .int .i64 ((k2 : Nat) : Int))] ∧ mJ = (aU ak ah).length - k2 ∧ k2 ≤ (aU ak ah).length ∧ Hp w S0 wJ [aQ tInt 3 xg c12 (gZ au (foldM au ak bE ((bB ((aU ak ah).take k) (aU ak ah)) ++ ((aU ak ah).take k2).map (fun y => (x1, y))))), dG g2 50 [.int .i64 ((dF au ak bE (foldM au ak bE ((bB ((aU ak ah).take k) (aU ak ah)) ++ ((aU ak ah).take k2).map (fun y => (x1, y))))).Kind), .int .i64 ((dF au ak bE (foldM au ak bE ((bB ((aU ak ah).take k) (aU ak ah)) ++ ((aU ak ah).take k2).map (fun y => (x1, y))))).aB), .int .i64 ((dF au ak bE (foldM au ak bE ((bB ((aU ak ah).take k) (aU ak ah)) ++ ((aU ak ah).take k2).map (fun y => (x1, y))))).ay), .int .u32 ((dF au ak bE (foldM au ak bE ((bB ((aU ak ah).take k) (aU ak ah)) ++ ((aU ak ah).take k2).map (fun y => (x1, y))))).Sum), .int .i64 ((dF au ak bE (foldM au ak bE ((bB ((aU ak ah).take k) (aU ak ah)) ++ ((aU ak ah).take k2).map (fun y => (x1, y))))).dw), .int .i64 ((dF au ak bE (foldM au ak bE ((bB ((aU ak ah).take k) (aU ak ah)) ++ ((aU ak ah).take k2).map (fun y => (x1, y))))).To), .int .i64 ((dF au ak bE (foldM au ak bE ((bB ((aU ak ah).take k) (aU ak ah)) ++ ((aU ak ah).take k2).map (fun y => (x1, y))))).dQ)], aQ tNode 63 sG sH (aU ak ah), dG g1 50 [.int .i64 0, .int .i64 0, .int .i64 0, .int .u32 0, .int .i64 0, .int .i64 0, .int .i64 0]]) ⟨0, xg, c12, Y, Y, Nat.zero_le _, K7⟩ Y ?_
   rintro _ _ w8 ⟨k2, xg, c12, rfl, rfl, hk2, K8⟩
   refine WP.seq <| rg <| mv Y <| mv Y <| ev (Ev.len Tryz.underlying22 Y) <| ev (Ev.lss Y Y) <| dn ?_
   refine WP.aG Y (fun vU => ?_) (fun vU => ?_)
   ·
    replace vU := of_decide_eq_true vU
    refine WP.skip (aA.norm ?_)
    refine WP.seq <| WP.block <| rg <| mv Y <| mv Y <| mv Y <| ev (Ev.index (i := k) Tryz.underlying22 eO Y Y Y (aC hx1) ((K8.o s2).some_ hx1)) <| ev (Ev.field dV Y (bJ _ _ _)) <| ev (Ev.aZ bf Y ((K8.o s2).aX (j := 0) hx1 Y)) ?_
    refine C0 K8 Y Y Y Fq (qR _ (K8.a eF).any x1.ID) fun w9 K9 => ?_
    refine aR Y <| dn <| rg <| mv Y <| mv Y <| mv Y ?_
    obtain ⟨x2, hx2⟩ := get_some (xs := aU ak ah) (i := k2) (by omega)
    refine ev (Ev.index (i := k2) Tryz.underlying22 eO Y Y Y (aC hx2) ((K9.o s2).some_ hx2)) <| ev (Ev.field dV Y (bJ _ _ _)) <| ev (Ev.aZ bf Y ((K9.o s2).aX (j := 0) hx2 Y)) ?_
    refine C0 K9 Y Y Y Fq (qR _ (K9.a eF).any x2.ID) fun J8 K10 => ?_
    refine aR Y <| dn <| WP.seq ?_
    have hl1 : bQ au x1.ID ≤ au.length := List.length_filter_le _ _
    have hl2 : bQ au x2.ID ≤ au.length := List.length_filter_le _ _
    have hfo := Nk (bV hx2)
    refine rg <| mv Y <| mv Y <| ev (Ev.sub Y Y (eX.mk (by omega) (by omega))) <| mv Y <| ev (Ev.leq Y Y) <| mv Y ?_
    refine WL.dR 8 71 ((decide (((bQ au x1.ID : Nat) : Int) - ((bQ au x2.ID : Nat) : Int) ≤ (if 1 > bE then 1 else bE))) || (decide (x2.fI ≤ ((bQ au x2.ID : Nat) : Int)))) ?_ ?_
    ·
     cases ada : decide (((bQ au x1.ID : Nat) : Int) - ((bQ au x2.ID : Nat) : Int) ≤ (if 1 > bE then 1 else bE)) with
     | true =>
      refine WL.pass Y Y Y <| WL.pass Y Y Y <| WL.pass Y Y Y <| WL.pass Y Y Y <| WL.pass Y Y Y <| WL.pass Y Y Y <| WL.pass Y Y Y <| ev (Ev.bq Y Y) ?_
      exact WL.bM Y
     | false =>
      have agb := of_decide_eq_false ada
      refine WL.bF Y (Ev.move Y) Y <| WL.bF Y (Ev.move Y) Y <| WL.bF Y (Ev.move Y) Y <| WL.bF Y (Ev.index (i := k2) Tryz.underlying22 eO Y Y Y (aC hx2) ((K10.o s2).some_ hx2)) Y ?_
      refine WL.bF Y (Ev.field pY Y (bJ _ _ _)) Y <| WL.bF Y (Ev.aZ bf Y ((K10.o s2).aX (j := 2) hx2 Y)) Y <| WL.bF Y (Ev.geq Y Y) Y ?_
      refine ev (Ev.bn Y Y) ?_
      exact WL.bM Y
    refine dn ?_
    refine WP.aG Y (fun oQ => ?_) (fun oQ => ?_)
    ·
     try simp only [Bool.or_eq_true, Bool.or_eq_false_iff, decide_eq_true_eq, decide_eq_false_iff_not] at oQ
     refine WP.exit (aA.aF (aA.bS (aA.norm ?_)))
     refine eP <| mv Y <| ev (Ev.add Y Y (eX.mk (by omega) (by omega))) <| aR Y <| eT ?_
     have Lh : ((gZ au (foldM au ak bE ((bB ((aU ak ah).take k) (aU ak ah)) ++ ((aU ak ah).take k2).map (fun y => (x1, y))))) : List Int) = (gZ au (foldM au ak bE ((bB ((aU ak ah).take k) (aU ak ah)) ++ ((aU ak ah).take (k2 + 1)).map (fun y => (x1, y))))) := by rw [jr hx2]; first | ((have hv : vP au ak bE (x1, x2) = none := by first | exact nR (by simpa using oQ) | (rw [CV]; simpa using oC)); rw [jm hv]; done) | (rw [iH hv1 (by omega)]; rfl) | (rw [jo hv1 iA]; rfl) | rw [jq hv1 (by omega) iA]
     refine aA.re (t := 12) Y (congrArg (fun z => Value.slice xg (List.length z) c12) Lh) ?_
     rw [Lh] at K10
     have Ot : (dF au ak bE (foldM au ak bE ((bB ((aU ak ah).take k) (aU ak ah)) ++ ((aU ak ah).take k2).map (fun y => (x1, y))))) = (dF au ak bE (foldM au ak bE ((bB ((aU ak ah).take k) (aU ak ah)) ++ ((aU ak ah).take (k2 + 1)).map (fun y => (x1, y))))) := by rw [jr hx2]; first | ((have hv : vP au ak bE (x1, x2) = none := by first | exact nR (by simpa using oQ) | (rw [CV]; simpa using oC)); rw [jm hv]; done) | (rw [iH hv1 (by omega)]; rw [hO]) | (rw [jo hv1 iA]; rw [hO]) | rw [jq hv1 (by omega) iA]
     rw [Ot] at K10
     exact aA.ag ⟨(k2 + 1), xg, c12, Y, Y, by omega, K10⟩ rfl (by omega)
    try simp only [Bool.or_eq_true, Bool.or_eq_false_iff, decide_eq_true_eq, decide_eq_false_iff_not] at oQ
    refine WP.skip (aA.norm ?_)
    have CV : vP au ak bE (x1, x2) = bG au ak x1.ID x2.ID := aaB (by rintro (h | h) <;> simp only at h <;> omega)
    refine He K10 (fun _ K => K) (fun l0 rk lJ wJ => ∃ (iZ : Nat), lJ = (18, .pointer (some ⟨iZ, 0, none⟩)) :: (19, .bool ((bG au ak x1.ID x2.ID).isSome)) :: l0 ∧ Hp w S0 wJ (dG iZ 50 [.int .i64 (((bG au ak x1.ID x2.ID).getD ⟨0, 0, 0, 0, 0, 0, 0⟩).Kind), .int .i64 (((bG au ak x1.ID x2.ID).getD ⟨0, 0, 0, 0, 0, 0, 0⟩).aB), .int .i64 (((bG au ak x1.ID x2.ID).getD ⟨0, 0, 0, 0, 0, 0, 0⟩).ay), .int .u32 (((bG au ak x1.ID x2.ID).getD ⟨0, 0, 0, 0, 0, 0, 0⟩).Sum), .int .i64 (((bG au ak x1.ID x2.ID).getD ⟨0, 0, 0, 0, 0, 0, 0⟩).dw), .int .i64 (((bG au ak x1.ID x2.ID).getD ⟨0, 0, 0, 0, 0, 0, 0⟩).To), .int .i64 (((bG au ak x1.ID x2.ID).getD ⟨0, 0, 0, 0, 0, 0, 0⟩).dQ)] :: rk)) (fun hns H4 => ?_) ?_
    ·
     refine Tm 0 1 hns Y Y H4 <| Tm 1 3 hns Y Y H4 <| Tm 2 7 hns Y Y H4 <| Tm 3 15 hns Y Y H4 <| Tn 4 31 hns Y (fun _ hK => Ev.index (i := k) Tryz.underlying22 eO Y Y Y (aC hx1) ((hK.o s2).some_ hx1)) H4 <| Tn 5 63 hns Y (fun _ _ => Ev.field dV Y (bJ _ _ _)) H4 <| Tn 6 127 hns Y (fun _ hK => Ev.aZ bf Y ((hK.o s2).aX (j := 0) hx1 Y)) H4 <| Tm 7 255 hns Y Y H4 <| Tm 8 511 hns Y Y H4 <| Tn 9 1023 hns Y (fun _ hK => Ev.index (i := k2) Tryz.underlying22 eO Y Y Y (aC hx2) ((hK.o s2).some_ hx2)) H4 <| Tn 10 2047 hns Y (fun _ _ => Ev.field dV Y (bJ _ _ _)) H4 <| Tn 11 4095 hns Y (fun _ hK => Ev.aZ bf Y ((hK.o s2).aX (j := 0) hx2 Y)) H4 ?_
     refine Jn H4 (fun l0 rk lJ wJ => ∃ (g3 : Nat), lJ = (18, .pointer (some ⟨g3, 0, none⟩)) :: (87, .bool ((bG au ak x1.ID x2.ID).isSome)) :: l0 ∧ Hp w S0 wJ (dG g3 50 [.int .i64 (((bG au ak x1.ID x2.ID).getD ⟨0, 0, 0, 0, 0, 0, 0⟩).Kind), .int .i64 (((bG au ak x1.ID x2.ID).getD ⟨0, 0, 0, 0, 0, 0, 0⟩).aB), .int .i64 (((bG au ak x1.ID x2.ID).getD ⟨0, 0, 0, 0, 0, 0, 0⟩).ay), .int .u32 (((bG au ak x1.ID x2.ID).getD ⟨0, 0, 0, 0, 0, 0, 0⟩).Sum), .int .i64 (((bG au ak x1.ID x2.ID).getD ⟨0, 0, 0, 0, 0, 0, 0⟩).dw), .int .i64 (((bG au ak x1.ID x2.ID).getD ⟨0, 0, 0, 0, 0, 0, 0⟩).To), .int .i64 (((bG au ak x1.ID x2.ID).getD ⟨0, 0, 0, 0, 0, 0, 0⟩).dQ)] :: rk)) 1 262143 ?_ fun hS1 => ?_
     ·
      rintro _ Vh ⟨g3, rfl, qp⟩
      have k5 := (qp.rm s0)
      refine Ta 18 524287 hns Y Y k5 ?_
      exact Dn ⟨g3, Y, qp⟩ Y
     refine O2 12 16 Y Y ?_ ?_
     ·
      refine C0 H4 Y Y Y JV (r9 _ (H4.a eF).any (H4.a dU).any x1.ID x2.ID hmay hfo) fun Yb vX => ?_
      refine WH.next vX <| Tm 13 16383 hns Y Y vX <| Tn 14 32767 hns Y (fun _ _ => Ev.extract (vs := [.agg #[.int .i64 (((bG au ak x1.ID x2.ID).getD ⟨0, 0, 0, 0, 0, 0, 0⟩).Kind), .int .i64 (((bG au ak x1.ID x2.ID).getD ⟨0, 0, 0, 0, 0, 0, 0⟩).aB), .int .i64 (((bG au ak x1.ID x2.ID).getD ⟨0, 0, 0, 0, 0, 0, 0⟩).ay), .int .u32 (((bG au ak x1.ID x2.ID).getD ⟨0, 0, 0, 0, 0, 0, 0⟩).Sum), .int .i64 (((bG au ak x1.ID x2.ID).getD ⟨0, 0, 0, 0, 0, 0, 0⟩).dw), .int .i64 (((bG au ak x1.ID x2.ID).getD ⟨0, 0, 0, 0, 0, 0, 0⟩).To), .int .i64 (((bG au ak x1.ID x2.ID).getD ⟨0, 0, 0, 0, 0, 0, 0⟩).dQ)], .bool ((bG au ak x1.ID x2.ID).isSome)]) Y Y) vX ?_
      refine Tn 15 65535 hns Y (fun _ _ => Ev.extract (vs := [.agg #[.int .i64 (((bG au ak x1.ID x2.ID).getD ⟨0, 0, 0, 0, 0, 0, 0⟩).Kind), .int .i64 (((bG au ak x1.ID x2.ID).getD ⟨0, 0, 0, 0, 0, 0, 0⟩).aB), .int .i64 (((bG au ak x1.ID x2.ID).getD ⟨0, 0, 0, 0, 0, 0, 0⟩).ay), .int .u32 (((bG au ak x1.ID x2.ID).getD ⟨0, 0, 0, 0, 0, 0, 0⟩).Sum), .int .i64 (((bG au ak x1.ID x2.ID).getD ⟨0, 0, 0, 0, 0, 0, 0⟩).dw), .int .i64 (((bG au ak x1.ID x2.ID).getD ⟨0, 0, 0, 0, 0, 0, 0⟩).To), .int .i64 (((bG au ak x1.ID x2.ID).getD ⟨0, 0, 0, 0, 0, 0, 0⟩).dQ)], .bool ((bG au ak x1.ID x2.ID).isSome)]) Y Y) vX ?_
      refine O1 16 Y ?_
      refine al jM Y vX fun g5 ZJ zy => ?_
      have k6 := (zy.rm s0)
      refine WH.next k6 <| O1 17 Y ?_
      refine iW Y Y Y gW zy s0 Y Y fun ZK vG => ?_
      have k7 := (vG.rm s0)
      exact Kj hS1 k7 ⟨g5, Y, vG⟩ Y
     ·
      refine al jM Y H4 fun g6 YR sJ => ?_
      have k8 := (sJ.rm s0)
      refine WH.next k8 <| O1 12 Y ?_
      refine C0 sJ Y Y Y JV (r9 _ (sJ.a eF).any (sJ.a dU).any x1.ID x2.ID hmay hfo) fun ZL yO => ?_
      have k9 := (yO.rm s0)
      refine WH.next k9 <| Tm 13 81919 hns Y Y k9 <| Tn 14 98303 hns Y (fun _ _ => Ev.extract (vs := [.agg #[.int .i64 (((bG au ak x1.ID x2.ID).getD ⟨0, 0, 0, 0, 0, 0, 0⟩).Kind), .int .i64 (((bG au ak x1.ID x2.ID).getD ⟨0, 0, 0, 0, 0, 0, 0⟩).aB), .int .i64 (((bG au ak x1.ID x2.ID).getD ⟨0, 0, 0, 0, 0, 0, 0⟩).ay), .int .u32 (((bG au ak x1.ID x2.ID).getD ⟨0, 0, 0, 0, 0, 0, 0⟩).Sum), .int .i64 (((bG au ak x1.ID x2.ID).getD ⟨0, 0, 0, 0, 0, 0, 0⟩).dw), .int .i64 (((bG au ak x1.ID x2.ID).getD ⟨0, 0, 0, 0, 0, 0, 0⟩).To), .int .i64 (((bG au ak x1.ID x2.ID).getD ⟨0, 0, 0, 0, 0, 0, 0⟩).dQ)], .bool ((bG au ak x1.ID x2.ID).isSome)]) Y Y) k9 ?_
      refine Tn 15 131071 hns Y (fun _ _ => Ev.extract (vs := [.agg #[.int .i64 (((bG au ak x1.ID x2.ID).getD ⟨0, 0, 0, 0, 0, 0, 0⟩).Kind), .int .i64 (((bG au ak x1.ID x2.ID).getD ⟨0, 0, 0, 0, 0, 0, 0⟩).aB), .int .i64 (((bG au ak x1.ID x2.ID).getD ⟨0, 0, 0, 0, 0, 0, 0⟩).ay), .int .u32 (((bG au ak x1.ID x2.ID).getD ⟨0, 0, 0, 0, 0, 0, 0⟩).Sum), .int .i64 (((bG au ak x1.ID x2.ID).getD ⟨0, 0, 0, 0, 0, 0, 0⟩).dw), .int .i64 (((bG au ak x1.ID x2.ID).getD ⟨0, 0, 0, 0, 0, 0, 0⟩).To), .int .i64 (((bG au ak x1.ID x2.ID).getD ⟨0, 0, 0, 0, 0, 0, 0⟩).dQ)], .bool ((bG au ak x1.ID x2.ID).isSome)]) Y Y) k9 ?_
      refine O1 17 Y ?_
      refine iW Y Y Y gW yO s0 Y Y fun w23 Ag => ?_
      have k10 := (Ag.rm s0)
      exact Kj hS1 k10 ⟨g6, Y, Ag⟩ Y
    rintro _ w24 ⟨iZ, rfl, yt⟩
    refine WP.seq <| rg <| mv Y <| ev (Ev.not Y) <| dn ?_
    refine WP.aG Y (fun oC => ?_) (fun oC => ?_)
    ·
     try simp only [an4, an5, an6, an7, an8, an9, aoa, aob] at oC
     refine WP.exit (aA.aF (aA.bS (aA.norm ?_)))
     refine eP <| mv Y <| ev (Ev.add Y Y (eX.mk (by omega) (by omega))) <| aR Y <| eT ?_
     have R3 : ((gZ au (foldM au ak bE ((bB ((aU ak ah).take k) (aU ak ah)) ++ ((aU ak ah).take k2).map (fun y => (x1, y))))) : List Int) = (gZ au (foldM au ak bE ((bB ((aU ak ah).take k) (aU ak ah)) ++ ((aU ak ah).take (k2 + 1)).map (fun y => (x1, y))))) := by rw [jr hx2]; first | ((have hv : vP au ak bE (x1, x2) = none := by first | exact nR (by simpa using oQ) | (rw [CV]; simpa using oC)); rw [jm hv]; done) | (rw [iH hv1 (by omega)]; rfl) | (rw [jo hv1 iA]; rfl) | rw [jq hv1 (by omega) iA]
     refine aA.re (t := 12) Y (congrArg (fun z => Value.slice xg (List.length z) c12) R3) ?_
     rw [R3] at yt
     have Ou : (dF au ak bE (foldM au ak bE ((bB ((aU ak ah).take k) (aU ak ah)) ++ ((aU ak ah).take k2).map (fun y => (x1, y))))) = (dF au ak bE (foldM au ak bE ((bB ((aU ak ah).take k) (aU ak ah)) ++ ((aU ak ah).take (k2 + 1)).map (fun y => (x1, y))))) := by rw [jr hx2]; first | ((have hv : vP au ak bE (x1, x2) = none := by first | exact nR (by simpa using oQ) | (rw [CV]; simpa using oC)); rw [jm hv]; done) | (rw [iH hv1 (by omega)]; rw [hO]) | (rw [jo hv1 iA]; rw [hO]) | rw [jq hv1 (by omega) iA]
     rw [Ou] at yt
     exact aA.ag ⟨(k2 + 1), xg, c12, Y, Y, by omega, (yt.rm s0)⟩ rfl (by omega)
    try simp only [an4, an5, an6, an7, an8, an9, aoa, aob] at oC
    refine WP.skip (aA.norm ?_)
    have hi : (bG au ak x1.ID x2.ID).isSome = true := by simpa using oC
    have hv1 : (vP au ak bE (x1, x2)).isSome = true := by rw [CV]; exact hi
    have hO : ((bG au ak x1.ID x2.ID).getD ⟨0, 0, 0, 0, 0, 0, 0⟩ : AOrder) = dF au ak bE (some (x1, x2)) := by unfold dF; rw [Option.bind_some, CV]
    refine He yt (fun _ K => K) (fun l0 rk lJ wJ => ∃ (Cb : Nat), lJ = (20, .slice (some ⟨Cb, 0, none⟩) (([((bQ au x1.ID : Nat) : Int), x1.ID, ((bQ au x2.ID : Nat) : Int), x2.ID] : List Int).length) 4) :: l0 ∧ Hp w S0 wJ (aQ tInt 3 (some ⟨Cb, 0, none⟩) 4 ([((bQ au x1.ID : Nat) : Int), x1.ID, ((bQ au x2.ID : Nat) : Int), x2.ID] : List Int) :: rk)) (fun hns H5 => ?_) ?_
    ·
     refine Tm 0 1 hns Y Y H5 <| Tm 1 3 hns Y Y H5 <| Tm 2 7 hns Y Y H5 <| Tn 3 15 hns Y (fun _ hK => Ev.index (i := k) Tryz.underlying22 eO Y Y Y (aC hx1) ((hK.o s3).some_ hx1)) H5 ?_
     refine Tn 4 31 hns Y (fun _ _ => Ev.field dV Y (bJ _ _ _)) H5 <| Tn 5 63 hns Y (fun _ hK => Ev.aZ bf Y ((hK.o s3).aX (j := 0) hx1 Y)) H5 ?_
     refine Tm 6 127 hns Y Y H5 <| Tm 7 255 hns Y Y H5 <| Tm 8 511 hns Y Y H5 <| Tn 9 1023 hns Y (fun _ hK => Ev.index (i := k2) Tryz.underlying22 eO Y Y Y (aC hx2) ((hK.o s3).some_ hx2)) H5 ?_
     refine Tn 10 2047 hns Y (fun _ _ => Ev.field dV Y (bJ _ _ _)) H5 <| Tn 11 4095 hns Y (fun _ hK => Ev.aZ bf Y ((hK.o s3).aX (j := 0) hx2 Y)) H5 ?_
     refine O1 12 Y ?_
     refine X7 (τ := tInt) (xs := ([((bQ au x1.ID : Nat) : Int), x1.ID, ((bQ au x2.ID : Nat) : Int), x2.ID] : List Int)) (vs := [(0, .int .i64 ((bQ au x1.ID : Nat) : Int)), (1, .int .i64 x1.ID), (2, .int .i64 ((bQ au x2.ID : Nat) : Int)), (3, .int .i64 x2.ID)]) (css := [[.int .i64 ((bQ au x1.ID : Nat) : Int)], [.int .i64 x1.ID], [.int .i64 ((bQ au x2.ID : Nat) : Int)], [.int .i64 x2.ID]]) Y (by intro _; apply zY) rfl rfl H5 (fun _ e => ⟨rfl, rfl, rfl, rfl, trivial⟩) fun g7 w25 yC => ?_
     have k11 := (yC.rm s0)
     refine WH.next k11 <| Ta 13 16383 hns Y Y k11 ?_
     exact Dn ⟨g7, Y, yC⟩ Y
    rintro _ w26 ⟨Cb, rfl, y8⟩
    refine WP.seq <| WP.re (t := 19) (u := .bool ((bG au ak x1.ID x2.ID).isSome)) (v := .bool true) Y (congrArg Value.bool hi) <| rg <| mv Y <| ev (Ev.len Tryz.underlying51 Y) <| ev (Ev.gtr Y Y) <| dn ?_
    refine WP.aG Y (fun xk => ?_) (fun xk => ?_)
    ·
     replace xk := of_decide_eq_true xk
     refine eP <| mv Y <| mv Y ?_
     refine C0 y8 Y Y Y Xq (CF _ (y8.o s0) (y8.o s2) (by first | omega | (simp; done) | decide) (Fp (by omega))) fun w27 zA => ?_
     refine aR Y <| eT <| aA.norm <| rg <| mv Y <| dn ?_
     refine WP.aG Y (fun iA => ?_) (fun iA => ?_)
     ·
      refine rg <| mv Y <| aR Y <| dn <| eP <| ev (Ev.bX jV Y Y (zA.x s1)) ?_
      refine iW Y Y Y gW zA s3 Y Y fun ZM yP => ?_
      refine eT ?_
      refine aA.aS (aA.norm ?_)
      refine eP <| mv Y <| ev (Ev.add Y Y (eX.mk (by omega) (by omega))) <| aR Y <| eT ?_
      have Lj : (([((bQ au x1.ID : Nat) : Int), x1.ID, ((bQ au x2.ID : Nat) : Int), x2.ID] : List Int) : List Int) = (gZ au (foldM au ak bE ((bB ((aU ak ah).take k) (aU ak ah)) ++ ((aU ak ah).take (k2 + 1)).map (fun y => (x1, y))))) := by rw [jr hx2]; first | ((have hv : vP au ak bE (x1, x2) = none := by first | exact nR (by simpa using oQ) | (rw [CV]; simpa using oC)); rw [jm hv]; done) | (rw [iH hv1 (by omega)]; rfl) | (rw [jo hv1 iA]; rfl) | rw [jq hv1 (by omega) iA]
      refine aA.re (t := 12) Y (congrArg (fun z => Value.slice (some ⟨Cb, 0, none⟩) (List.length z) 4) Lj) ?_
      rw [Lj] at yP
      have Ov : ((bG au ak x1.ID x2.ID).getD ⟨0, 0, 0, 0, 0, 0, 0⟩) = (dF au ak bE (foldM au ak bE ((bB ((aU ak ah).take k) (aU ak ah)) ++ ((aU ak ah).take (k2 + 1)).map (fun y => (x1, y))))) := by rw [jr hx2]; first | ((have hv : vP au ak bE (x1, x2) = none := by first | exact nR (by simpa using oQ) | (rw [CV]; simpa using oC)); rw [jm hv]; done) | (rw [iH hv1 (by omega)]; rw [hO]) | (rw [jo hv1 iA]; rw [hO]) | rw [jq hv1 (by omega) iA]
      rw [Ov] at yP
      exact aA.ag ⟨(k2 + 1), (some ⟨Cb, 0, none⟩), 4, Y, Y, by omega, ((((yP.rm s3).rm s2).sel s0).sel s1)⟩ rfl (by omega)
     refine WP.skip (aA.aS (aA.norm ?_))
     refine eP <| mv Y <| ev (Ev.add Y Y (eX.mk (by omega) (by omega))) <| aR Y <| eT ?_
     have Ll : ((gZ au (foldM au ak bE ((bB ((aU ak ah).take k) (aU ak ah)) ++ ((aU ak ah).take k2).map (fun y => (x1, y))))) : List Int) = (gZ au (foldM au ak bE ((bB ((aU ak ah).take k) (aU ak ah)) ++ ((aU ak ah).take (k2 + 1)).map (fun y => (x1, y))))) := by rw [jr hx2]; first | ((have hv : vP au ak bE (x1, x2) = none := by first | exact nR (by simpa using oQ) | (rw [CV]; simpa using oC)); rw [jm hv]; done) | (rw [iH hv1 (by omega)]; rfl) | (rw [jo hv1 iA]; rfl) | rw [jq hv1 (by omega) iA]
     refine aA.re (t := 12) Y (congrArg (fun z => Value.slice xg (List.length z) c12) Ll) ?_
     rw [Ll] at zA
     have Ox : (dF au ak bE (foldM au ak bE ((bB ((aU ak ah).take k) (aU ak ah)) ++ ((aU ak ah).take k2).map (fun y => (x1, y))))) = (dF au ak bE (foldM au ak bE ((bB ((aU ak ah).take k) (aU ak ah)) ++ ((aU ak ah).take (k2 + 1)).map (fun y => (x1, y))))) := by rw [jr hx2]; first | ((have hv : vP au ak bE (x1, x2) = none := by first | exact nR (by simpa using oQ) | (rw [CV]; simpa using oC)); rw [jm hv]; done) | (rw [iH hv1 (by omega)]; rw [hO]) | (rw [jo hv1 iA]; rw [hO]) | rw [jq hv1 (by omega) iA]
     rw [Ox] at zA
     exact aA.ag ⟨(k2 + 1), xg, c12, Y, Y, by omega, ((zA.rm s1).rm s0)⟩ rfl (by omega)
    replace xk := of_decide_eq_false xk
    refine WP.skip (aA.norm ?_)
    refine rg <| mv Y <| dn ?_
    refine WP.aG Y (fun _h => ?_) (fun _h => absurd _h (by decide))
    refine rg <| mv Y <| aR Y <| dn <| eP <| ev (Ev.bX jV Y Y (y8.x s1)) ?_
    refine iW Y Y Y gW y8 s3 Y Y fun ZN Bd => ?_
    refine eT ?_
    refine aA.aS (aA.norm ?_)
    refine eP <| mv Y <| ev (Ev.add Y Y (eX.mk (by omega) (by omega))) <| aR Y <| eT ?_
    have Tv : (([((bQ au x1.ID : Nat) : Int), x1.ID, ((bQ au x2.ID : Nat) : Int), x2.ID] : List Int) : List Int) = (gZ au (foldM au ak bE ((bB ((aU ak ah).take k) (aU ak ah)) ++ ((aU ak ah).take (k2 + 1)).map (fun y => (x1, y))))) := by rw [jr hx2]; first | ((have hv : vP au ak bE (x1, x2) = none := by first | exact nR (by simpa using oQ) | (rw [CV]; simpa using oC)); rw [jm hv]; done) | (rw [iH hv1 (by omega)]; rfl) | (rw [jo hv1 iA]; rfl) | rw [jq hv1 (by omega) iA]
    refine aA.re (t := 12) Y (congrArg (fun z => Value.slice (some ⟨Cb, 0, none⟩) (List.length z) 4) Tv) ?_
    rw [Tv] at Bd
    have Xr : ((bG au ak x1.ID x2.ID).getD ⟨0, 0, 0, 0, 0, 0, 0⟩) = (dF au ak bE (foldM au ak bE ((bB ((aU ak ah).take k) (aU ak ah)) ++ ((aU ak ah).take (k2 + 1)).map (fun y => (x1, y))))) := by rw [jr hx2]; first | ((have hv : vP au ak bE (x1, x2) = none := by first | exact nR (by simpa using oQ) | (rw [CV]; simpa using oC)); rw [jm hv]; done) | (rw [iH hv1 (by omega)]; rw [hO]) | (rw [jo hv1 iA]; rw [hO]) | rw [jq hv1 (by omega) iA]
    rw [Xr] at Bd
    exact aA.ag ⟨(k2 + 1), (some ⟨Cb, 0, none⟩), 4, Y, Y, by omega, ((((Bd.rm s3).rm s2).sel s0).sel s1)⟩ rfl (by omega)
   replace vU := of_decide_eq_false vU
   refine WP.exit (aA.aF (aA.aF (aA.bS (aA.aS (aA.norm ?_)))))
   refine eP <| mv Y <| ev (Ev.add Y Y (eX.mk (by omega) (by omega))) <| aR Y <| eT ?_
   have Tz : ((gZ au (foldM au ak bE ((bB ((aU ak ah).take k) (aU ak ah)) ++ ((aU ak ah).take k2).map (fun y => (x1, y))))) : List Int) = (gZ au (foldM au ak bE (bB ((aU ak ah).take (k + 1)) (aU ak ah)))) := by rw [qH hx1, List.take_of_length_le (show (aU ak ah).length ≤ k2 by omega)]
   refine aA.re (t := 12) Y (congrArg (fun z => Value.slice xg (List.length z) c12) Tz) ?_
   rw [Tz] at K8
   have Xt : (dF au ak bE (foldM au ak bE ((bB ((aU ak ah).take k) (aU ak ah)) ++ ((aU ak ah).take k2).map (fun y => (x1, y))))) = (dF au ak bE (foldM au ak bE (bB ((aU ak ah).take (k + 1)) (aU ak ah)))) := by rw [qH hx1, List.take_of_length_le (show (aU ak ah).length ≤ k2 by omega)]
   rw [Xt] at K8
   exact aA.ag ⟨(k + 1), xg, c12, Y, Y, by omega, K8⟩ rfl (by omega)
  replace kX := of_decide_eq_false kX
  refine WP.exit (aA.aF (aA.aF (aA.bS (aA.norm ?_))))
  refine rg <| ev (Ev.bX jV Y Y (K7.x s1)) <| mv Y <| ev (Ev.len Tryz.underlying51 Y) <| ev (Ev.gtr Y Y) ?_
  refine iW Y Y Y gW K7 s3 Y Y fun w30 Ah => ?_
  refine aR Y <| dn ?_
  refine WP.ret (aA.oG Y ⟨_, _, Y, ⟨_, Y, eH (cs := [.int .i64 ((dF au ak bE (foldM au ak bE (bB ((aU ak ah).take k) (aU ak ah)))).Kind), .int .i64 ((dF au ak bE (foldM au ak bE (bB ((aU ak ah).take k) (aU ak ah)))).aB), .int .i64 ((dF au ak bE (foldM au ak bE (bB ((aU ak ah).take k) (aU ak ah)))).ay), .int .u32 ((dF au ak bE (foldM au ak bE (bB ((aU ak ah).take k) (aU ak ah)))).Sum), .int .i64 ((dF au ak bE (foldM au ak bE (bB ((aU ak ah).take k) (aU ak ah)))).dw), .int .i64 ((dF au ak bE (foldM au ak bE (bB ((aU ak ah).take k) (aU ak ah)))).To), .int .i64 ((dF au ak bE (foldM au ak bE (bB ((aU ak ah).take k) (aU ak ah)))).dQ)]) jV Y (Ah.x s0)⟩, ⟨_, _, Y, Y, Y⟩⟩ ?_)
  have Fz : ((dF au ak bE (foldM au ak bE (bB ((aU ak ah).take k) (aU ak ah)))) : AOrder) = (aV au ak ah bE) := by rw [List.take_of_length_le (by omega)]; exact (zX hmay ak ah bE).1
  have Xu : ((dF au ak bE (foldM au ak bE (bB ((aU ak ah).take k) (aU ak ah)))).Kind : Int) = (aV au ak ah bE).Kind := by rw [← Fz]
  have Xv : ((dF au ak bE (foldM au ak bE (bB ((aU ak ah).take k) (aU ak ah)))).aB : Int) = (aV au ak ah bE).aB := by rw [← Fz]
  have Xw : ((dF au ak bE (foldM au ak bE (bB ((aU ak ah).take k) (aU ak ah)))).ay : Int) = (aV au ak ah bE).ay := by rw [← Fz]
  have Xx : ((dF au ak bE (foldM au ak bE (bB ((aU ak ah).take k) (aU ak ah)))).Sum : Int) = (aV au ak ah bE).Sum := by rw [← Fz]
  have Xy : ((dF au ak bE (foldM au ak bE (bB ((aU ak ah).take k) (aU ak ah)))).dw : Int) = (aV au ak ah bE).dw := by rw [← Fz]
  have Xz : ((dF au ak bE (foldM au ak bE (bB ((aU ak ah).take k) (aU ak ah)))).To : Int) = (aV au ak ah bE).To := by rw [← Fz]
  have XA : ((dF au ak bE (foldM au ak bE (bB ((aU ak ah).take k) (aU ak ah)))).dQ : Int) = (aV au ak ah bE).dQ := by rw [← Fz]
  have XB : (decide (0 < (((gZ au (foldM au ak bE (bB ((aU ak ah).take k) (aU ak ah)))).length : Nat) : Int)) : Bool) = (moveB au ak ah bE) := by rw [List.take_of_length_le (by omega), Ik]; exact (zX hmay ak ah bE).2
  exact ⟨by rw [Xu, Xv, Xw, Xx, Xy, Xz, XA, XB] <;> rfl, Ah.z⟩
 replace hc27 := of_decide_eq_false hc27
 refine WP.skip (aA.norm ?_)
 refine WP.re (t := 3) (u := .int .i64 bE) Y (congrArg (Value.int .i64) (show (bE : Int) = (if 1 > bE then 1 else bE) by first | rw [if_pos (by omega)] | rw [if_neg (by omega)])) ?_
 refine rg <| mv Y <| mv Y <| WL.call Y Y Y Xp (Il _ (K2.a dU).any (K2.a cu).any (by omega)) Y ?_
 rintro _ w31 ⟨Nn, Np, rfl, h31⟩
 have F4 := K2.f1 h31
 have ajs := (F4.o s0).aN
 refine aR Y <| dn <| rg <| aR Y <| dn <| rg <| ev (Ev.build (vs := []) (cs := [.int .i64 0, .int .i64 0, .int .i64 0, .int .u32 0, .int .i64 0, .int .i64 0, .int .i64 0]) Y (by apply JU)) ?_
 refine al jM Y F4 fun g8 w32 FM => ?_
 refine iW Y Y Y gW FM s0 Y Y fun w33 Oo => ?_
 refine dn <| WP.seq <| rg <| aR Y <| dn <| WP.block ?_
 have H6 := Oo.nil tInt 3
 have agc : (([] : List Int) : List Int) = (gZ au (foldM au ak bE (bB ((aU ak ah).take 0) (aU ak ah)))) := by rfl
 refine WP.re (t := 12) Y (congrArg (fun z => Value.slice none (List.length z) 0) agc) ?_
 have H7 := H6.nil tInt 3
 have H8 := (agc ▸ H7 : Hp w S0 w33 (aQ tInt 3 none 0 (gZ au (foldM au ak bE (bB ((aU ak ah).take 0) (aU ak ah)))) :: [aQ tInt 3 none 0 [], dG g8 50 [.int .i64 0, .int .i64 0, .int .i64 0, .int .u32 0, .int .i64 0, .int .i64 0, .int .i64 0], aQ tNode 63 Nn Np (aU ak ah), dG g1 50 [.int .i64 0, .int .i64 0, .int .i64 0, .int .u32 0, .int .i64 0, .int .i64 0, .int .i64 0]]))
 have ajt : (.int .i64 0 : Value) = .int .i64 ((dF au ak bE (foldM au ak bE (bB ((aU ak ah).take 0) (aU ak ah)))).Kind) := by rfl
 try rw [ajt] at H8
 have aju : (.int .i64 0 : Value) = .int .i64 ((dF au ak bE (foldM au ak bE (bB ((aU ak ah).take 0) (aU ak ah)))).aB) := by rfl
 try rw [aju] at H8
 have ajv : (.int .i64 0 : Value) = .int .i64 ((dF au ak bE (foldM au ak bE (bB ((aU ak ah).take 0) (aU ak ah)))).ay) := by rfl
 try rw [ajv] at H8
 have ajw : (.int .u32 0 : Value) = .int .u32 ((dF au ak bE (foldM au ak bE (bB ((aU ak ah).take 0) (aU ak ah)))).Sum) := by rfl
 try rw [ajw] at H8
 have ajx : (.int .i64 0 : Value) = .int .i64 ((dF au ak bE (foldM au ak bE (bB ((aU ak ah).take 0) (aU ak ah)))).dw) := by rfl
 try rw [ajx] at H8
 have ajy : (.int .i64 0 : Value) = .int .i64 ((dF au ak bE (foldM au ak bE (bB ((aU ak ah).take 0) (aU ak ah)))).To) := by rfl
 try rw [ajy] at H8
 have ajz : (.int .i64 0 : Value) = .int .i64 ((dF au ak bE (foldM au ak bE (bB ((aU ak ah).take 0) (aU ak ah)))).dQ) := by rfl
 try rw [ajz] at H8
 refine WP.lp (fun mJ lJ wJ => ∃ (k : Nat) (xg : an3) (c12 : Nat), lJ = [(0, .slice eB au.length eD), (1, .slice eY ak.length eZ), (3, .int .i64 (if 1 > bE then 1 else bE)), (8, .pointer (some ⟨g1, 0, none⟩)), (11, .slice Nn ((aU ak ah).length) Np), (12, .slice xg ((gZ au (foldM au ak bE (bB ((aU ak ah).take k) (aU ak ah)))).length) c12), (13, .pointer (some ⟨g8, 0, none⟩)), (14, .int .i64 ((k : Nat) : Int))] ∧ mJ = (aU ak ah).length - k ∧ k ≤ (aU ak ah).length ∧ Hp w S0 wJ [aQ tInt 3 xg c12 (gZ au (foldM au ak bE (bB ((aU ak ah).take k) (aU ak ah)))), dG g8 50 [.int .i64 ((dF au ak bE (foldM au ak bE (bB ((aU ak ah).take k) (aU ak ah)))).Kind), .int .i64 ((dF au ak bE (foldM au ak bE (bB ((aU ak ah).take k) (aU ak ah)))).aB), .int .i64 ((dF au ak bE (foldM au ak bE (bB ((aU ak ah).take k) (aU ak ah)))).ay), .int .u32 ((dF au ak bE (foldM au ak bE (bB ((aU ak ah).take k) (aU ak ah)))).Sum), .int .i64 ((dF au ak bE (foldM au ak bE (bB ((aU ak ah).take k) (aU ak ah)))).dw), .int .i64 ((dF au ak bE (foldM au ak bE (bB ((aU ak ah).take k) (aU ak ah)))).To), .int .i64 ((dF au ak bE (foldM au ak bE (bB ((aU ak ah).take k) (aU ak ah)))).dQ)], aQ tNode 63 Nn Np (aU ak ah), dG g1 50 [.int .i64 0, .int .i64 0, .int .i64 0, .int .u32 0, .int .i64 0, .int .i64 0, .int .i64 0]]) ⟨0, none, 0, Y, Y, Nat.zero_le _, (H8.rm s1)⟩ Y ?_
 rintro _ _ w34 ⟨k, xg, c12, rfl, rfl, hk, Oq⟩
 refine WP.seq <| rg <| mv Y <| mv Y <| ev (Ev.len Tryz.underlying22 Y) <| ev (Ev.lss Y Y) <| dn ?_
 refine WP.aG Y (fun kX => ?_) (fun kX => ?_)
 ·
  replace kX := of_decide_eq_true kX
  refine WP.skip (aA.norm ?_)
  refine WP.seq <| WP.block <| rg <| aR Y <| dn <| WP.block ?_
  obtain ⟨x3, hx3⟩ := get_some (xs := aU ak ah) (i := k) (by omega)
  have agd : ((gZ au (foldM au ak bE (bB ((aU ak ah).take k) (aU ak ah)))) : List Int) = (gZ au (foldM au ak bE ((bB ((aU ak ah).take k) (aU ak ah)) ++ ((aU ak ah).take 0).map (fun y => (x3, y))))) := by rw [List.take_zero, List.map_nil, List.append_nil]
  refine WP.re (t := 12) Y (congrArg (fun z => Value.slice xg (List.length z) c12) agd) ?_
  rw [agd] at Oq
  have ajA : (dF au ak bE (foldM au ak bE (bB ((aU ak ah).take k) (aU ak ah)))) = (dF au ak bE (foldM au ak bE ((bB ((aU ak ah).take k) (aU ak ah)) ++ ((aU ak ah).take 0).map (fun y => (x3, y))))) := by rw [List.take_zero, List.map_nil, List.append_nil]
  rw [ajA] at Oq
  refine WP.lp (fun mJ lJ wJ => ∃ (k2 : Nat) (xg : an3) (c12 : Nat), lJ = [(0, .slice eB au.length eD), (1, .slice eY ak.length eZ), (3, .int .i64 (if 1 > bE then 1 else bE)), (8, .pointer (some ⟨g1, 0, none⟩)), (11, .slice Nn ((aU ak ah).length) Np), (12, .slice xg ((gZ au (foldM au ak bE ((bB ((aU ak ah).take k) (aU ak ah)) ++ ((aU ak ah).take k2).map (fun y => (x3, y))))).length) c12), (13, .pointer (some ⟨g8, 0, none⟩)), (14, .int .i64 ((k : Nat) : Int)), (15, .int .i64 ((k2 : Nat) : Int))] ∧ mJ = (aU ak ah).length - k2 ∧ k2 ≤ (aU ak ah).length ∧ Hp w S0 wJ [aQ tInt 3 xg c12 (gZ au (foldM au ak bE ((bB ((aU ak ah).take k) (aU ak ah)) ++ ((aU ak ah).take k2).map (fun y => (x3, y))))), dG g8 50 [.int .i64 ((dF au ak bE (foldM au ak bE ((bB ((aU ak ah).take k) (aU ak ah)) ++ ((aU ak ah).take k2).map (fun y => (x3, y))))).Kind), .int .i64 ((dF au ak bE (foldM au ak bE ((bB ((aU ak ah).take k) (aU ak ah)) ++ ((aU ak ah).take k2).map (fun y => (x3, y))))).aB), .int .i64 ((dF au ak bE (foldM au ak bE ((bB ((aU ak ah).take k) (aU ak ah)) ++ ((aU ak ah).take k2).map (fun y => (x3, y))))).ay), .int .u32 ((dF au ak bE (foldM au ak bE ((bB ((aU ak ah).take k) (aU ak ah)) ++ ((aU ak ah).take k2).map (fun y => (x3, y))))).Sum), .int .i64 ((dF au ak bE (foldM au ak bE ((bB ((aU ak ah).take k) (aU ak ah)) ++ ((aU ak ah).take k2).map (fun y => (x3, y))))).dw), .int .i64 ((dF au ak bE (foldM au ak bE ((bB ((aU ak ah).take k) (aU ak ah)) ++ ((aU ak ah).take k2).map (fun y => (x3, y))))).To), .int .i64 ((dF au ak bE (foldM au ak bE ((bB ((aU ak ah).take k) (aU ak ah)) ++ ((aU ak ah).take k2).map (fun y => (x3, y))))).dQ)], aQ tNode 63 Nn Np (aU ak ah), dG g1 50 [.int .i64 0, .int .i64 0, .int .i64 0, .int .u32 0, .int .i64 0, .int .i64 0, .int .i64 0]]) ⟨0, xg, c12, Y, Y, Nat.zero_le _, Oq⟩ Y ?_
  rintro _ _ w35 ⟨k2, xg, c12, rfl, rfl, hk2, LZ⟩
  refine WP.seq <| rg <| mv Y <| mv Y <| ev (Ev.len Tryz.underlying22 Y) <| ev (Ev.lss Y Y) <| dn ?_
  refine WP.aG Y (fun vU => ?_) (fun vU => ?_)
  ·
   replace vU := of_decide_eq_true vU
   refine WP.skip (aA.norm ?_)
   refine WP.seq <| WP.block <| rg <| mv Y <| mv Y <| mv Y <| ev (Ev.index (i := k) Tryz.underlying22 eO Y Y Y (aC hx3) ((LZ.o s2).some_ hx3)) <| ev (Ev.field dV Y (bJ _ _ _)) <| ev (Ev.aZ bf Y ((LZ.o s2).aX (j := 0) hx3 Y)) ?_
   refine C0 LZ Y Y Y Fq (qR _ (LZ.a eF).any x3.ID) fun w36 L6 => ?_
   refine aR Y <| dn <| rg <| mv Y <| mv Y <| mv Y ?_
   obtain ⟨x4, hx4⟩ := get_some (xs := aU ak ah) (i := k2) (by omega)
   refine ev (Ev.index (i := k2) Tryz.underlying22 eO Y Y Y (aC hx4) ((L6.o s2).some_ hx4)) <| ev (Ev.field dV Y (bJ _ _ _)) <| ev (Ev.aZ bf Y ((L6.o s2).aX (j := 0) hx4 Y)) ?_
   refine C0 L6 Y Y Y Fq (qR _ (L6.a eF).any x4.ID) fun w37 L8 => ?_
   refine aR Y <| dn <| WP.seq ?_
   have hl1 : bQ au x3.ID ≤ au.length := List.length_filter_le _ _
   have hl2 : bQ au x4.ID ≤ au.length := List.length_filter_le _ _
   have hfo := Nk (bV hx4)
   refine rg <| mv Y <| mv Y <| ev (Ev.sub Y Y (eX.mk (by omega) (by omega))) <| mv Y <| ev (Ev.leq Y Y) <| mv Y ?_
   refine WL.dR 8 71 ((decide (((bQ au x3.ID : Nat) : Int) - ((bQ au x4.ID : Nat) : Int) ≤ (if 1 > bE then 1 else bE))) || (decide (x4.fI ≤ ((bQ au x4.ID : Nat) : Int)))) ?_ ?_
   ·
    cases ada : decide (((bQ au x3.ID : Nat) : Int) - ((bQ au x4.ID : Nat) : Int) ≤ (if 1 > bE then 1 else bE)) with
    | true =>
     refine WL.pass Y Y Y <| WL.pass Y Y Y <| WL.pass Y Y Y <| WL.pass Y Y Y <| WL.pass Y Y Y <| WL.pass Y Y Y <| WL.pass Y Y Y <| ev (Ev.bq Y Y) ?_
     exact WL.bM Y
    | false =>
     have agb := of_decide_eq_false ada
     refine WL.bF Y (Ev.move Y) Y <| WL.bF Y (Ev.move Y) Y <| WL.bF Y (Ev.move Y) Y <| WL.bF Y (Ev.index (i := k2) Tryz.underlying22 eO Y Y Y (aC hx4) ((L8.o s2).some_ hx4)) Y ?_
     refine WL.bF Y (Ev.field pY Y (bJ _ _ _)) Y <| WL.bF Y (Ev.aZ bf Y ((L8.o s2).aX (j := 2) hx4 Y)) Y <| WL.bF Y (Ev.geq Y Y) Y ?_
     refine ev (Ev.bn Y Y) ?_
     exact WL.bM Y
   refine dn ?_
   refine WP.aG Y (fun oQ => ?_) (fun oQ => ?_)
   ·
    try simp only [Bool.or_eq_true, Bool.or_eq_false_iff, decide_eq_true_eq, decide_eq_false_iff_not] at oQ
    refine WP.exit (aA.aF (aA.bS (aA.norm ?_)))
    refine eP <| mv Y <| ev (Ev.add Y Y (eX.mk (by omega) (by omega))) <| aR Y <| eT ?_
    have agf : ((gZ au (foldM au ak bE ((bB ((aU ak ah).take k) (aU ak ah)) ++ ((aU ak ah).take k2).map (fun y => (x3, y))))) : List Int) = (gZ au (foldM au ak bE ((bB ((aU ak ah).take k) (aU ak ah)) ++ ((aU ak ah).take (k2 + 1)).map (fun y => (x3, y))))) := by rw [jr hx4]; first | ((have hv : vP au ak bE (x3, x4) = none := by first | exact nR (by simpa using oQ) | (rw [CV]; simpa using oC)); rw [jm hv]; done) | (rw [iH hv1 (by omega)]; rfl) | (rw [jo hv1 iA]; rfl) | rw [jq hv1 (by omega) iA]
    refine aA.re (t := 12) Y (congrArg (fun z => Value.slice xg (List.length z) c12) agf) ?_
    rw [agf] at L8
    have ajB : (dF au ak bE (foldM au ak bE ((bB ((aU ak ah).take k) (aU ak ah)) ++ ((aU ak ah).take k2).map (fun y => (x3, y))))) = (dF au ak bE (foldM au ak bE ((bB ((aU ak ah).take k) (aU ak ah)) ++ ((aU ak ah).take (k2 + 1)).map (fun y => (x3, y))))) := by rw [jr hx4]; first | ((have hv : vP au ak bE (x3, x4) = none := by first | exact nR (by simpa using oQ) | (rw [CV]; simpa using oC)); rw [jm hv]; done) | (rw [iH hv1 (by omega)]; rw [hO]) | (rw [jo hv1 iA]; rw [hO]) | rw [jq hv1 (by omega) iA]
    rw [ajB] at L8
    exact aA.ag ⟨(k2 + 1), xg, c12, Y, Y, by omega, L8⟩ rfl (by omega)
   try simp only [Bool.or_eq_true, Bool.or_eq_false_iff, decide_eq_true_eq, decide_eq_false_iff_not] at oQ
   refine WP.skip (aA.norm ?_)
   have CV : vP au ak bE (x3, x4) = bG au ak x3.ID x4.ID := aaB (by rintro (h | h) <;> simp only at h <;> omega)
   refine He L8 (fun _ K => K) (fun l0 rk lJ wJ => ∃ (gj3 : Nat), lJ = (18, .pointer (some ⟨gj3, 0, none⟩)) :: (19, .bool ((bG au ak x3.ID x4.ID).isSome)) :: l0 ∧ Hp w S0 wJ (dG gj3 50 [.int .i64 (((bG au ak x3.ID x4.ID).getD ⟨0, 0, 0, 0, 0, 0, 0⟩).Kind), .int .i64 (((bG au ak x3.ID x4.ID).getD ⟨0, 0, 0, 0, 0, 0, 0⟩).aB), .int .i64 (((bG au ak x3.ID x4.ID).getD ⟨0, 0, 0, 0, 0, 0, 0⟩).ay), .int .u32 (((bG au ak x3.ID x4.ID).getD ⟨0, 0, 0, 0, 0, 0, 0⟩).Sum), .int .i64 (((bG au ak x3.ID x4.ID).getD ⟨0, 0, 0, 0, 0, 0, 0⟩).dw), .int .i64 (((bG au ak x3.ID x4.ID).getD ⟨0, 0, 0, 0, 0, 0, 0⟩).To), .int .i64 (((bG au ak x3.ID x4.ID).getD ⟨0, 0, 0, 0, 0, 0, 0⟩).dQ)] :: rk)) (fun hns H9 => ?_) ?_
   ·
    refine Tm 0 1 hns Y Y H9 <| Tm 1 3 hns Y Y H9 <| Tm 2 7 hns Y Y H9 <| Tm 3 15 hns Y Y H9 <| Tn 4 31 hns Y (fun _ hK => Ev.index (i := k) Tryz.underlying22 eO Y Y Y (aC hx3) ((hK.o s2).some_ hx3)) H9 <| Tn 5 63 hns Y (fun _ _ => Ev.field dV Y (bJ _ _ _)) H9 <| Tn 6 127 hns Y (fun _ hK => Ev.aZ bf Y ((hK.o s2).aX (j := 0) hx3 Y)) H9 <| Tm 7 255 hns Y Y H9 <| Tm 8 511 hns Y Y H9 <| Tn 9 1023 hns Y (fun _ hK => Ev.index (i := k2) Tryz.underlying22 eO Y Y Y (aC hx4) ((hK.o s2).some_ hx4)) H9 <| Tn 10 2047 hns Y (fun _ _ => Ev.field dV Y (bJ _ _ _)) H9 <| Tn 11 4095 hns Y (fun _ hK => Ev.aZ bf Y ((hK.o s2).aX (j := 0) hx4 Y)) H9 ?_
    refine Jn H9 (fun l0 rk lJ wJ => ∃ (g9 : Nat), lJ = (18, .pointer (some ⟨g9, 0, none⟩)) :: (87, .bool ((bG au ak x3.ID x4.ID).isSome)) :: l0 ∧ Hp w S0 wJ (dG g9 50 [.int .i64 (((bG au ak x3.ID x4.ID).getD ⟨0, 0, 0, 0, 0, 0, 0⟩).Kind), .int .i64 (((bG au ak x3.ID x4.ID).getD ⟨0, 0, 0, 0, 0, 0, 0⟩).aB), .int .i64 (((bG au ak x3.ID x4.ID).getD ⟨0, 0, 0, 0, 0, 0, 0⟩).ay), .int .u32 (((bG au ak x3.ID x4.ID).getD ⟨0, 0, 0, 0, 0, 0, 0⟩).Sum), .int .i64 (((bG au ak x3.ID x4.ID).getD ⟨0, 0, 0, 0, 0, 0, 0⟩).dw), .int .i64 (((bG au ak x3.ID x4.ID).getD ⟨0, 0, 0, 0, 0, 0, 0⟩).To), .int .i64 (((bG au ak x3.ID x4.ID).getD ⟨0, 0, 0, 0, 0, 0, 0⟩).dQ)] :: rk)) 1 262143 ?_ fun hS2 => ?_
    ·
     rintro _ w44 ⟨g9, rfl, NI⟩
     have k16 := (NI.rm s0)
     refine Ta 18 524287 hns Y Y k16 ?_
     exact Dn ⟨g9, Y, NI⟩ Y
    refine O2 12 16 Y Y ?_ ?_
    ·
     refine C0 H9 Y Y Y JV (r9 _ (H9.a eF).any (H9.a dU).any x3.ID x4.ID hmay hfo) fun w45 Dj => ?_
     refine WH.next Dj <| Tm 13 16383 hns Y Y Dj <| Tn 14 32767 hns Y (fun _ _ => Ev.extract (vs := [.agg #[.int .i64 (((bG au ak x3.ID x4.ID).getD ⟨0, 0, 0, 0, 0, 0, 0⟩).Kind), .int .i64 (((bG au ak x3.ID x4.ID).getD ⟨0, 0, 0, 0, 0, 0, 0⟩).aB), .int .i64 (((bG au ak x3.ID x4.ID).getD ⟨0, 0, 0, 0, 0, 0, 0⟩).ay), .int .u32 (((bG au ak x3.ID x4.ID).getD ⟨0, 0, 0, 0, 0, 0, 0⟩).Sum), .int .i64 (((bG au ak x3.ID x4.ID).getD ⟨0, 0, 0, 0, 0, 0, 0⟩).dw), .int .i64 (((bG au ak x3.ID x4.ID).getD ⟨0, 0, 0, 0, 0, 0, 0⟩).To), .int .i64 (((bG au ak x3.ID x4.ID).getD ⟨0, 0, 0, 0, 0, 0, 0⟩).dQ)], .bool ((bG au ak x3.ID x4.ID).isSome)]) Y Y) Dj ?_
     refine Tn 15 65535 hns Y (fun _ _ => Ev.extract (vs := [.agg #[.int .i64 (((bG au ak x3.ID x4.ID).getD ⟨0, 0, 0, 0, 0, 0, 0⟩).Kind), .int .i64 (((bG au ak x3.ID x4.ID).getD ⟨0, 0, 0, 0, 0, 0, 0⟩).aB), .int .i64 (((bG au ak x3.ID x4.ID).getD ⟨0, 0, 0, 0, 0, 0, 0⟩).ay), .int .u32 (((bG au ak x3.ID x4.ID).getD ⟨0, 0, 0, 0, 0, 0, 0⟩).Sum), .int .i64 (((bG au ak x3.ID x4.ID).getD ⟨0, 0, 0, 0, 0, 0, 0⟩).dw), .int .i64 (((bG au ak x3.ID x4.ID).getD ⟨0, 0, 0, 0, 0, 0, 0⟩).To), .int .i64 (((bG au ak x3.ID x4.ID).getD ⟨0, 0, 0, 0, 0, 0, 0⟩).dQ)], .bool ((bG au ak x3.ID x4.ID).isSome)]) Y Y) Dj ?_
     refine O1 16 Y ?_
     refine al jM Y Dj fun g11 w46 Yd => ?_
     have k17 := (Yd.rm s0)
     refine WH.next k17 <| O1 17 Y ?_
     refine iW Y Y Y gW Yd s0 Y Y fun w47 K47 => ?_
     have k18 := (K47.rm s0)
     exact Kj hS2 k18 ⟨g11, Y, K47⟩ Y
    ·
     refine al jM Y H9 fun g12 w48 Ye => ?_
     have k19 := (Ye.rm s0)
     refine WH.next k19 <| O1 12 Y ?_
     refine C0 Ye Y Y Y JV (r9 _ (Ye.a eF).any (Ye.a dU).any x3.ID x4.ID hmay hfo) fun w49 K49 => ?_
     have k20 := (K49.rm s0)
     refine WH.next k20 <| Tm 13 81919 hns Y Y k20 <| Tn 14 98303 hns Y (fun _ _ => Ev.extract (vs := [.agg #[.int .i64 (((bG au ak x3.ID x4.ID).getD ⟨0, 0, 0, 0, 0, 0, 0⟩).Kind), .int .i64 (((bG au ak x3.ID x4.ID).getD ⟨0, 0, 0, 0, 0, 0, 0⟩).aB), .int .i64 (((bG au ak x3.ID x4.ID).getD ⟨0, 0, 0, 0, 0, 0, 0⟩).ay), .int .u32 (((bG au ak x3.ID x4.ID).getD ⟨0, 0, 0, 0, 0, 0, 0⟩).Sum), .int .i64 (((bG au ak x3.ID x4.ID).getD ⟨0, 0, 0, 0, 0, 0, 0⟩).dw), .int .i64 (((bG au ak x3.ID x4.ID).getD ⟨0, 0, 0, 0, 0, 0, 0⟩).To), .int .i64 (((bG au ak x3.ID x4.ID).getD ⟨0, 0, 0, 0, 0, 0, 0⟩).dQ)], .bool ((bG au ak x3.ID x4.ID).isSome)]) Y Y) k20 ?_
     refine Tn 15 131071 hns Y (fun _ _ => Ev.extract (vs := [.agg #[.int .i64 (((bG au ak x3.ID x4.ID).getD ⟨0, 0, 0, 0, 0, 0, 0⟩).Kind), .int .i64 (((bG au ak x3.ID x4.ID).getD ⟨0, 0, 0, 0, 0, 0, 0⟩).aB), .int .i64 (((bG au ak x3.ID x4.ID).getD ⟨0, 0, 0, 0, 0, 0, 0⟩).ay), .int .u32 (((bG au ak x3.ID x4.ID).getD ⟨0, 0, 0, 0, 0, 0, 0⟩).Sum), .int .i64 (((bG au ak x3.ID x4.ID).getD ⟨0, 0, 0, 0, 0, 0, 0⟩).dw), .int .i64 (((bG au ak x3.ID x4.ID).getD ⟨0, 0, 0, 0, 0, 0, 0⟩).To), .int .i64 (((bG au ak x3.ID x4.ID).getD ⟨0, 0, 0, 0, 0, 0, 0⟩).dQ)], .bool ((bG au ak x3.ID x4.ID).isSome)]) Y Y) k20 ?_
     refine O1 17 Y ?_
     refine iW Y Y Y gW K49 s0 Y Y fun w50 K50 => ?_
     have k21 := (K50.rm s0)
     exact Kj hS2 k21 ⟨g12, Y, K50⟩ Y
   rintro _ w51 ⟨gj3, rfl, K51⟩
   refine WP.seq <| rg <| mv Y <| ev (Ev.not Y) <| dn ?_
   refine WP.aG Y (fun oC => ?_) (fun oC => ?_)
   ·
    try simp only [an4, an5, an6, an7, an8, an9, aoa, aob] at oC
    refine WP.exit (aA.aF (aA.bS (aA.norm ?_)))
    refine eP <| mv Y <| ev (Ev.add Y Y (eX.mk (by omega) (by omega))) <| aR Y <| eT ?_
    have agh : ((gZ au (foldM au ak bE ((bB ((aU ak ah).take k) (aU ak ah)) ++ ((aU ak ah).take k2).map (fun y => (x3, y))))) : List Int) = (gZ au (foldM au ak bE ((bB ((aU ak ah).take k) (aU ak ah)) ++ ((aU ak ah).take (k2 + 1)).map (fun y => (x3, y))))) := by rw [jr hx4]; first | ((have hv : vP au ak bE (x3, x4) = none := by first | exact nR (by simpa using oQ) | (rw [CV]; simpa using oC)); rw [jm hv]; done) | (rw [iH hv1 (by omega)]; rfl) | (rw [jo hv1 iA]; rfl) | rw [jq hv1 (by omega) iA]
    refine aA.re (t := 12) Y (congrArg (fun z => Value.slice xg (List.length z) c12) agh) ?_
    rw [agh] at K51
    have ajD : (dF au ak bE (foldM au ak bE ((bB ((aU ak ah).take k) (aU ak ah)) ++ ((aU ak ah).take k2).map (fun y => (x3, y))))) = (dF au ak bE (foldM au ak bE ((bB ((aU ak ah).take k) (aU ak ah)) ++ ((aU ak ah).take (k2 + 1)).map (fun y => (x3, y))))) := by rw [jr hx4]; first | ((have hv : vP au ak bE (x3, x4) = none := by first | exact nR (by simpa using oQ) | (rw [CV]; simpa using oC)); rw [jm hv]; done) | (rw [iH hv1 (by omega)]; rw [hO]) | (rw [jo hv1 iA]; rw [hO]) | rw [jq hv1 (by omega) iA]
    rw [ajD] at K51
    exact aA.ag ⟨(k2 + 1), xg, c12, Y, Y, by omega, (K51.rm s0)⟩ rfl (by omega)
   try simp only [an4, an5, an6, an7, an8, an9, aoa, aob] at oC
   refine WP.skip (aA.norm ?_)
   have hi : (bG au ak x3.ID x4.ID).isSome = true := by simpa using oC
   have hv1 : (vP au ak bE (x3, x4)).isSome = true := by rw [CV]; exact hi
   have hO : ((bG au ak x3.ID x4.ID).getD ⟨0, 0, 0, 0, 0, 0, 0⟩ : AOrder) = dF au ak bE (some (x3, x4)) := by unfold dF; rw [Option.bind_some, CV]
   refine He K51 (fun _ K => K) (fun l0 rk lJ wJ => ∃ (gj4 : Nat), lJ = (20, .slice (some ⟨gj4, 0, none⟩) (([((bQ au x3.ID : Nat) : Int), x3.ID, ((bQ au x4.ID : Nat) : Int), x4.ID] : List Int).length) 4) :: l0 ∧ Hp w S0 wJ (aQ tInt 3 (some ⟨gj4, 0, none⟩) 4 ([((bQ au x3.ID : Nat) : Int), x3.ID, ((bQ au x4.ID : Nat) : Int), x4.ID] : List Int) :: rk)) (fun hns Cc => ?_) ?_
   ·
    refine Tm 0 1 hns Y Y Cc <| Tm 1 3 hns Y Y Cc <| Tm 2 7 hns Y Y Cc <| Tn 3 15 hns Y (fun _ hK => Ev.index (i := k) Tryz.underlying22 eO Y Y Y (aC hx3) ((hK.o s3).some_ hx3)) Cc ?_
    refine Tn 4 31 hns Y (fun _ _ => Ev.field dV Y (bJ _ _ _)) Cc <| Tn 5 63 hns Y (fun _ hK => Ev.aZ bf Y ((hK.o s3).aX (j := 0) hx3 Y)) Cc ?_
    refine Tm 6 127 hns Y Y Cc <| Tm 7 255 hns Y Y Cc <| Tm 8 511 hns Y Y Cc <| Tn 9 1023 hns Y (fun _ hK => Ev.index (i := k2) Tryz.underlying22 eO Y Y Y (aC hx4) ((hK.o s3).some_ hx4)) Cc ?_
    refine Tn 10 2047 hns Y (fun _ _ => Ev.field dV Y (bJ _ _ _)) Cc <| Tn 11 4095 hns Y (fun _ hK => Ev.aZ bf Y ((hK.o s3).aX (j := 0) hx4 Y)) Cc ?_
    refine O1 12 Y ?_
    refine X7 (τ := tInt) (xs := ([((bQ au x3.ID : Nat) : Int), x3.ID, ((bQ au x4.ID : Nat) : Int), x4.ID] : List Int)) (vs := [(0, .int .i64 ((bQ au x3.ID : Nat) : Int)), (1, .int .i64 x3.ID), (2, .int .i64 ((bQ au x4.ID : Nat) : Int)), (3, .int .i64 x4.ID)]) (css := [[.int .i64 ((bQ au x3.ID : Nat) : Int)], [.int .i64 x3.ID], [.int .i64 ((bQ au x4.ID : Nat) : Int)], [.int .i64 x4.ID]]) Y (by intro _; apply zY) rfl rfl Cc (fun _ e => ⟨rfl, rfl, rfl, rfl, trivial⟩) fun g13 w52 K52 => ?_
    have k22 := (K52.rm s0)
    refine WH.next k22 <| Ta 13 16383 hns Y Y k22 ?_
    exact Dn ⟨g13, Y, K52⟩ Y
   rintro _ w53 ⟨gj4, rfl, TP⟩
   refine WP.seq <| WP.re (t := 19) (u := .bool ((bG au ak x3.ID x4.ID).isSome)) (v := .bool true) Y (congrArg Value.bool hi) <| rg <| mv Y <| ev (Ev.len Tryz.underlying51 Y) <| ev (Ev.gtr Y Y) <| dn ?_
   refine WP.aG Y (fun xk => ?_) (fun xk => ?_)
   ·
    replace xk := of_decide_eq_true xk
    refine eP <| mv Y <| mv Y ?_
    refine C0 TP Y Y Y Xq (CF _ (TP.o s0) (TP.o s2) (by first | omega | (simp; done) | decide) (Fp (by omega))) fun w54 Yf => ?_
    refine aR Y <| eT <| aA.norm <| rg <| mv Y <| dn ?_
    refine WP.aG Y (fun iA => ?_) (fun iA => ?_)
    ·
     refine rg <| mv Y <| aR Y <| dn <| eP <| ev (Ev.bX jV Y Y (Yf.x s1)) ?_
     refine iW Y Y Y gW Yf s3 Y Y fun w55 K55 => ?_
     refine eT ?_
     refine aA.aS (aA.norm ?_)
     refine eP <| mv Y <| ev (Ev.add Y Y (eX.mk (by omega) (by omega))) <| aR Y <| eT ?_
     have agi : (([((bQ au x3.ID : Nat) : Int), x3.ID, ((bQ au x4.ID : Nat) : Int), x4.ID] : List Int) : List Int) = (gZ au (foldM au ak bE ((bB ((aU ak ah).take k) (aU ak ah)) ++ ((aU ak ah).take (k2 + 1)).map (fun y => (x3, y))))) := by rw [jr hx4]; first | ((have hv : vP au ak bE (x3, x4) = none := by first | exact nR (by simpa using oQ) | (rw [CV]; simpa using oC)); rw [jm hv]; done) | (rw [iH hv1 (by omega)]; rfl) | (rw [jo hv1 iA]; rfl) | rw [jq hv1 (by omega) iA]
     refine aA.re (t := 12) Y (congrArg (fun z => Value.slice (some ⟨gj4, 0, none⟩) (List.length z) 4) agi) ?_
     rw [agi] at K55
     have ajE : ((bG au ak x3.ID x4.ID).getD ⟨0, 0, 0, 0, 0, 0, 0⟩) = (dF au ak bE (foldM au ak bE ((bB ((aU ak ah).take k) (aU ak ah)) ++ ((aU ak ah).take (k2 + 1)).map (fun y => (x3, y))))) := by rw [jr hx4]; first | ((have hv : vP au ak bE (x3, x4) = none := by first | exact nR (by simpa using oQ) | (rw [CV]; simpa using oC)); rw [jm hv]; done) | (rw [iH hv1 (by omega)]; rw [hO]) | (rw [jo hv1 iA]; rw [hO]) | rw [jq hv1 (by omega) iA]
     rw [ajE] at K55
     exact aA.ag ⟨(k2 + 1), (some ⟨gj4, 0, none⟩), 4, Y, Y, by omega, ((((K55.rm s3).rm s2).sel s0).sel s1)⟩ rfl (by omega)
    refine WP.skip (aA.aS (aA.norm ?_))
    refine eP <| mv Y <| ev (Ev.add Y Y (eX.mk (by omega) (by omega))) <| aR Y <| eT ?_
    have agj : ((gZ au (foldM au ak bE ((bB ((aU ak ah).take k) (aU ak ah)) ++ ((aU ak ah).take k2).map (fun y => (x3, y))))) : List Int) = (gZ au (foldM au ak bE ((bB ((aU ak ah).take k) (aU ak ah)) ++ ((aU ak ah).take (k2 + 1)).map (fun y => (x3, y))))) := by rw [jr hx4]; first | ((have hv : vP au ak bE (x3, x4) = none := by first | exact nR (by simpa using oQ) | (rw [CV]; simpa using oC)); rw [jm hv]; done) | (rw [iH hv1 (by omega)]; rfl) | (rw [jo hv1 iA]; rfl) | rw [jq hv1 (by omega) iA]
    refine aA.re (t := 12) Y (congrArg (fun z => Value.slice xg (List.length z) c12) agj) ?_
    rw [agj] at Yf
    have ajF : (dF au ak bE (foldM au ak bE ((bB ((aU ak ah).take k) (aU ak ah)) ++ ((aU ak ah).take k2).map (fun y => (x3, y))))) = (dF au ak bE (foldM au ak bE ((bB ((aU ak ah).take k) (aU ak ah)) ++ ((aU ak ah).take (k2 + 1)).map (fun y => (x3, y))))) := by rw [jr hx4]; first | ((have hv : vP au ak bE (x3, x4) = none := by first | exact nR (by simpa using oQ) | (rw [CV]; simpa using oC)); rw [jm hv]; done) | (rw [iH hv1 (by omega)]; rw [hO]) | (rw [jo hv1 iA]; rw [hO]) | rw [jq hv1 (by omega) iA]
    rw [ajF] at Yf
    exact aA.ag ⟨(k2 + 1), xg, c12, Y, Y, by omega, ((Yf.rm s1).rm s0)⟩ rfl (by omega)
   replace xk := of_decide_eq_false xk
   refine WP.skip (aA.norm ?_)
   refine rg <| mv Y <| dn ?_
   refine WP.aG Y (fun _h => ?_) (fun _h => absurd _h (by decide))
   refine rg <| mv Y <| aR Y <| dn <| eP <| ev (Ev.bX jV Y Y (TP.x s1)) ?_
   refine iW Y Y Y gW TP s3 Y Y fun w56 K56 => ?_
   refine eT ?_
   refine aA.aS (aA.norm ?_)
   refine eP <| mv Y <| ev (Ev.add Y Y (eX.mk (by omega) (by omega))) <| aR Y <| eT ?_
   have agk : (([((bQ au x3.ID : Nat) : Int), x3.ID, ((bQ au x4.ID : Nat) : Int), x4.ID] : List Int) : List Int) = (gZ au (foldM au ak bE ((bB ((aU ak ah).take k) (aU ak ah)) ++ ((aU ak ah).take (k2 + 1)).map (fun y => (x3, y))))) := by rw [jr hx4]; first | ((have hv : vP au ak bE (x3, x4) = none := by first | exact nR (by simpa using oQ) | (rw [CV]; simpa using oC)); rw [jm hv]; done) | (rw [iH hv1 (by omega)]; rfl) | (rw [jo hv1 iA]; rfl) | rw [jq hv1 (by omega) iA]
   refine aA.re (t := 12) Y (congrArg (fun z => Value.slice (some ⟨gj4, 0, none⟩) (List.length z) 4) agk) ?_
   rw [agk] at K56
   have ajG : ((bG au ak x3.ID x4.ID).getD ⟨0, 0, 0, 0, 0, 0, 0⟩) = (dF au ak bE (foldM au ak bE ((bB ((aU ak ah).take k) (aU ak ah)) ++ ((aU ak ah).take (k2 + 1)).map (fun y => (x3, y))))) := by rw [jr hx4]; first | ((have hv : vP au ak bE (x3, x4) = none := by first | exact nR (by simpa using oQ) | (rw [CV]; simpa using oC)); rw [jm hv]; done) | (rw [iH hv1 (by omega)]; rw [hO]) | (rw [jo hv1 iA]; rw [hO]) | rw [jq hv1 (by omega) iA]
   rw [ajG] at K56
   exact aA.ag ⟨(k2 + 1), (some ⟨gj4, 0, none⟩), 4, Y, Y, by omega, ((((K56.rm s3).rm s2).sel s0).sel s1)⟩ rfl (by omega)
  replace vU := of_decide_eq_false vU
  refine WP.exit (aA.aF (aA.aF (aA.bS (aA.aS (aA.norm ?_)))))
  refine eP <| mv Y <| ev (Ev.add Y Y (eX.mk (by omega) (by omega))) <| aR Y <| eT ?_
  have agl : ((gZ au (foldM au ak bE ((bB ((aU ak ah).take k) (aU ak ah)) ++ ((aU ak ah).take k2).map (fun y => (x3, y))))) : List Int) = (gZ au (foldM au ak bE (bB ((aU ak ah).take (k + 1)) (aU ak ah)))) := by rw [qH hx3, List.take_of_length_le (show (aU ak ah).length ≤ k2 by omega)]
  refine aA.re (t := 12) Y (congrArg (fun z => Value.slice xg (List.length z) c12) agl) ?_
  rw [agl] at LZ
  have ajH : (dF au ak bE (foldM au ak bE ((bB ((aU ak ah).take k) (aU ak ah)) ++ ((aU ak ah).take k2).map (fun y => (x3, y))))) = (dF au ak bE (foldM au ak bE (bB ((aU ak ah).take (k + 1)) (aU ak ah)))) := by rw [qH hx3, List.take_of_length_le (show (aU ak ah).length ≤ k2 by omega)]
  rw [ajH] at LZ
  exact aA.ag ⟨(k + 1), xg, c12, Y, Y, by omega, LZ⟩ rfl (by omega)
 replace kX := of_decide_eq_false kX
 refine WP.exit (aA.aF (aA.aF (aA.bS (aA.norm ?_))))
 refine rg <| ev (Ev.bX jV Y Y (Oq.x s1)) <| mv Y <| ev (Ev.len Tryz.underlying51 Y) <| ev (Ev.gtr Y Y) ?_
 refine iW Y Y Y gW Oq s3 Y Y fun w57 K57 => ?_
 refine aR Y <| dn ?_
 refine WP.ret (aA.oG Y ⟨_, _, Y, ⟨_, Y, eH (cs := [.int .i64 ((dF au ak bE (foldM au ak bE (bB ((aU ak ah).take k) (aU ak ah)))).Kind), .int .i64 ((dF au ak bE (foldM au ak bE (bB ((aU ak ah).take k) (aU ak ah)))).aB), .int .i64 ((dF au ak bE (foldM au ak bE (bB ((aU ak ah).take k) (aU ak ah)))).ay), .int .u32 ((dF au ak bE (foldM au ak bE (bB ((aU ak ah).take k) (aU ak ah)))).Sum), .int .i64 ((dF au ak bE (foldM au ak bE (bB ((aU ak ah).take k) (aU ak ah)))).dw), .int .i64 ((dF au ak bE (foldM au ak bE (bB ((aU ak ah).take k) (aU ak ah)))).To), .int .i64 ((dF au ak bE (foldM au ak bE (bB ((aU ak ah).take k) (aU ak ah)))).dQ)]) jV Y (K57.x s0)⟩, ⟨_, _, Y, Y, Y⟩⟩ ?_)
 have Ph : ((dF au ak bE (foldM au ak bE (bB ((aU ak ah).take k) (aU ak ah)))) : AOrder) = (aV au ak ah bE) := by rw [List.take_of_length_le (by omega)]; exact (zX hmay ak ah bE).1
 have ajI : ((dF au ak bE (foldM au ak bE (bB ((aU ak ah).take k) (aU ak ah)))).Kind : Int) = (aV au ak ah bE).Kind := by rw [← Ph]
 have ajJ : ((dF au ak bE (foldM au ak bE (bB ((aU ak ah).take k) (aU ak ah)))).aB : Int) = (aV au ak ah bE).aB := by rw [← Ph]
 have ajK : ((dF au ak bE (foldM au ak bE (bB ((aU ak ah).take k) (aU ak ah)))).ay : Int) = (aV au ak ah bE).ay := by rw [← Ph]
 have ajL : ((dF au ak bE (foldM au ak bE (bB ((aU ak ah).take k) (aU ak ah)))).Sum : Int) = (aV au ak ah bE).Sum := by rw [← Ph]
 have ajM : ((dF au ak bE (foldM au ak bE (bB ((aU ak ah).take k) (aU ak ah)))).dw : Int) = (aV au ak ah bE).dw := by rw [← Ph]
 have ajN : ((dF au ak bE (foldM au ak bE (bB ((aU ak ah).take k) (aU ak ah)))).To : Int) = (aV au ak ah bE).To := by rw [← Ph]
 have ajO : ((dF au ak bE (foldM au ak bE (bB ((aU ak ah).take k) (aU ak ah)))).dQ : Int) = (aV au ak ah bE).dQ := by rw [← Ph]
 have ajP : (decide (0 < (((gZ au (foldM au ak bE (bB ((aU ak ah).take k) (aU ak ah)))).length : Nat) : Int)) : Bool) = (moveB au ak ah bE) := by rw [List.take_of_length_le (by omega), Ik]; exact (zX hmay ak ah bE).2
 exact ⟨by rw [ajI, ajJ, ajK, ajL, ajM, ajN, ajO, ajP] <;> rfl, K57.z⟩
end Go.Proofs.YtjcklpooaaaglaaGreat
