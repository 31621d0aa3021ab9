/- Texts that the statement needs, with short names. -/
import Derived.Test.YtjcklpooaaaglaaGreatvG14
set_option maxRecDepth 4000
set_option linter.all false
namespace Go.Proofs.YtjcklpooaaaglaaGreat
open Go.RowKit
theorem ado : aM Tryz.prog 162 := fun _ _ => by kernel_rfl
theorem adp : aM Tryz.prog 163 := fun _ _ => by kernel_rfl
theorem Pn : aM Tryz.prog 157 := fun _ _ => by kernel_rfl
theorem adq : Tryz.prog.eqGuardType Tryz.prog.depth 77 = false := by kernel_rfl
theorem ads (x y : ALease) (w : World) : (Op.equalIn 10000 77 (.agg x.enc.toArray) (.agg y.enc.toArray)).run Tryz.prog w = .ok (decide (x = y)) w := by
  obtain ⟨a0, a1, a2, a3, a4⟩ := x; obtain ⟨b0, b1, b2, b3, b4⟩ := y
  simp only [ALease.enc, ALease.mk.injEq]
  simp [go_sem]
  repeat' split
  all_goals simp_all
theorem TF {S0 : Nat → Prop} (w : World) (x : ALease) :
    bY Tryz.prog 162 #[.agg #[.int .i64 x.aB, .int .i64 x.ay, .int .i64 x.dw, .int .i64 x.To, .int .i64 x.dQ]] w fun v w' => v = .bool (qZ x) ∧ Hp w S0 w' [] := by
 refine WP.enter Tryz.func162 Y Tryz.ntmps162 Y ?_
 have H0 := Hp.init w S0
 refine rg ?_
 refine bx Y Y H0 fun g1 w1 K1 => ?_
 refine aR Y <| dn <| rg <| ev (Ev.field (q := ⟨g1, 2, none⟩) qc Y Y) <| ev (Ev.aj bf Y (K1.x s0) Y) <| ev (Ev.geq Y Y) <| mv Y ?_
 refine WL.dR 4 10 ((decide (1 ≤ x.dw)) && (decide (x.dw ≤ 16))) ?_ ?_
 ·
  cases hb6 : decide (1 ≤ x.dw) with
  | true =>
   have YH := of_decide_eq_true hb6
   refine WL.bF Y (Ev.field (q := ⟨g1, 2, none⟩) qc Y Y) Y <| WL.bF Y (Ev.aj bf Y (K1.x s0) Y) Y <| WL.bF Y (Ev.leq Y Y) Y ?_
   refine ev (Ev.bq Y Y) ?_
   exact WL.bM Y
  | false =>
   refine WL.pass Y Y Y <| WL.pass Y Y Y <| WL.pass Y Y Y <| ev (Ev.bn Y Y) ?_
   exact WL.bM Y
 refine mv Y ?_
 refine WL.dR 4 15 (((decide (1 ≤ x.dw)) && (decide (x.dw ≤ 16))) && (decide (1 ≤ x.To))) ?_ ?_
 ·
  cases AX : ((decide (1 ≤ x.dw)) && (decide (x.dw ≤ 16))) with
  | true =>
   have tJ := AX
   try simp only [Bool.and_eq_true, Bool.and_eq_false_imp, decide_eq_true_eq, decide_eq_false_iff_not] at tJ
   refine WL.bF Y (Ev.field (q := ⟨g1, 3, none⟩) jl Y Y) Y <| WL.bF Y (Ev.aj bf Y (K1.x s0) Y) Y <| WL.bF Y (Ev.geq Y Y) Y ?_
   refine ev (Ev.bq Y Y) ?_
   exact WL.bM Y
  | false =>
   refine WL.pass Y Y Y <| WL.pass Y Y Y <| WL.pass Y Y Y <| ev (Ev.bn Y Y) ?_
   exact WL.bM Y
 refine mv Y ?_
 refine WL.dR 4 20 ((((decide (1 ≤ x.dw)) && (decide (x.dw ≤ 16))) && (decide (1 ≤ x.To))) && (decide (x.To ≤ 16))) ?_ ?_
 ·
  cases CO : (((decide (1 ≤ x.dw)) && (decide (x.dw ≤ 16))) && (decide (1 ≤ x.To))) with
  | true =>
   have yB := CO
   try simp only [Bool.and_eq_true, Bool.and_eq_false_imp, decide_eq_true_eq, decide_eq_false_iff_not] at yB
   refine WL.bF Y (Ev.field (q := ⟨g1, 3, none⟩) jl Y Y) Y <| WL.bF Y (Ev.aj bf Y (K1.x s0) Y) Y <| WL.bF Y (Ev.leq Y Y) Y ?_
   refine ev (Ev.bq Y Y) ?_
   exact WL.bM Y
  | false =>
   refine WL.pass Y Y Y <| WL.pass Y Y Y <| WL.pass Y Y Y <| ev (Ev.bn Y Y) ?_
   exact WL.bM Y
 refine mv Y ?_
 refine WL.dR 6 27 (((((decide (1 ≤ x.dw)) && (decide (x.dw ≤ 16))) && (decide (1 ≤ x.To))) && (decide (x.To ≤ 16))) && (!decide (x.dw = x.To))) ?_ ?_
 ·
  cases F9 : ((((decide (1 ≤ x.dw)) && (decide (x.dw ≤ 16))) && (decide (1 ≤ x.To))) && (decide (x.To ≤ 16))) with
  | true =>
   have EN := F9
   try simp only [Bool.and_eq_true, Bool.and_eq_false_imp, decide_eq_true_eq, decide_eq_false_iff_not] at EN
   refine WL.bF Y (Ev.field (q := ⟨g1, 2, none⟩) qc Y Y) Y <| WL.bF Y (Ev.aj bf Y (K1.x s0) Y) Y <| WL.bF Y (Ev.field (q := ⟨g1, 3, none⟩) jl Y Y) Y ?_
   refine WL.bF Y (Ev.aj bf Y (K1.x s0) Y) Y <| WL.bF Y (Ev.neq Y Y) Y <| ev (Ev.bq Y Y) ?_
   exact WL.bM Y
  | false =>
   refine WL.pass Y Y Y <| WL.pass Y Y Y <| WL.pass Y Y Y <| WL.pass Y Y Y <| WL.pass Y Y Y <| ev (Ev.bn Y Y) ?_
   exact WL.bM Y
 refine mv Y ?_
 refine WL.dR 4 32 ((((((decide (1 ≤ x.dw)) && (decide (x.dw ≤ 16))) && (decide (1 ≤ x.To))) && (decide (x.To ≤ 16))) && (!decide (x.dw = x.To))) && (decide (1 ≤ x.aB))) ?_ ?_
 ·
  cases Lm : (((((decide (1 ≤ x.dw)) && (decide (x.dw ≤ 16))) && (decide (1 ≤ x.To))) && (decide (x.To ≤ 16))) && (!decide (x.dw = x.To))) with
  | true =>
   have GZ := Lm
   try simp only [an4, an5, an6, an7, an8, an9, aoa, aob] at GZ
   refine WL.bF Y (Ev.field (q := ⟨g1, 0, none⟩) rM Y Y) Y <| WL.bF Y (Ev.aj bf Y (K1.x s0) Y) Y <| WL.bF Y (Ev.geq Y Y) Y ?_
   refine ev (Ev.bq Y Y) ?_
   exact WL.bM Y
  | false =>
   refine WL.pass Y Y Y <| WL.pass Y Y Y <| WL.pass Y Y Y <| ev (Ev.bn Y Y) ?_
   exact WL.bM Y
 refine mv Y ?_
 refine WL.dR 4 37 (((((((decide (1 ≤ x.dw)) && (decide (x.dw ≤ 16))) && (decide (1 ≤ x.To))) && (decide (x.To ≤ 16))) && (!decide (x.dw = x.To))) && (decide (1 ≤ x.aB))) && (decide (1 ≤ x.ay))) ?_ ?_
 ·
  cases CS : ((((((decide (1 ≤ x.dw)) && (decide (x.dw ≤ 16))) && (decide (1 ≤ x.To))) && (decide (x.To ≤ 16))) && (!decide (x.dw = x.To))) && (decide (1 ≤ x.aB))) with
  | true =>
   have Lr := CS
   try simp only [an4, an5, an6, an7, an8, an9, aoa, aob] at Lr
   refine WL.bF Y (Ev.field (q := ⟨g1, 1, none⟩) Qn Y Y) Y <| WL.bF Y (Ev.aj bf Y (K1.x s0) Y) Y <| WL.bF Y (Ev.geq Y Y) Y ?_
   refine ev (Ev.bq Y Y) ?_
   exact WL.bM Y
  | false =>
   refine WL.pass Y Y Y <| WL.pass Y Y Y <| WL.pass Y Y Y <| ev (Ev.bn Y Y) ?_
   exact WL.bM Y
 refine mv Y ?_
 refine WL.dR 4 42 ((((((((decide (1 ≤ x.dw)) && (decide (x.dw ≤ 16))) && (decide (1 ≤ x.To))) && (decide (x.To ≤ 16))) && (!decide (x.dw = x.To))) && (decide (1 ≤ x.aB))) && (decide (1 ≤ x.ay))) && (decide (0 ≤ x.dQ))) ?_ ?_
 ·
  cases VZ : (((((((decide (1 ≤ x.dw)) && (decide (x.dw ≤ 16))) && (decide (1 ≤ x.To))) && (decide (x.To ≤ 16))) && (!decide (x.dw = x.To))) && (decide (1 ≤ x.aB))) && (decide (1 ≤ x.ay))) with
  | true =>
   have Qw := VZ
   try simp only [an4, an5, an6, an7, an8, an9, aoa, aob] at Qw
   refine WL.bF Y (Ev.field (q := ⟨g1, 4, none⟩) uK Y Y) Y <| WL.bF Y (Ev.aj bf Y (K1.x s0) Y) Y <| WL.bF Y (Ev.geq Y Y) Y ?_
   refine ev (Ev.bq Y Y) ?_
   exact WL.bM Y
  | false =>
   refine WL.pass Y Y Y <| WL.pass Y Y Y <| WL.pass Y Y Y <| ev (Ev.bn Y Y) ?_
   exact WL.bM Y
 refine mv Y ?_
 refine WL.dR 4 47 (((((((((decide (1 ≤ x.dw)) && (decide (x.dw ≤ 16))) && (decide (1 ≤ x.To))) && (decide (x.To ≤ 16))) && (!decide (x.dw = x.To))) && (decide (1 ≤ x.aB))) && (decide (1 ≤ x.ay))) && (decide (0 ≤ x.dQ))) && (decide (x.dQ ≤ 1099511627776))) ?_ ?_
 ·
  cases ajW : ((((((((decide (1 ≤ x.dw)) && (decide (x.dw ≤ 16))) && (decide (1 ≤ x.To))) && (decide (x.To ≤ 16))) && (!decide (x.dw = x.To))) && (decide (1 ≤ x.aB))) && (decide (1 ≤ x.ay))) && (decide (0 ≤ x.dQ))) with
  | true =>
   have ags := ajW
   try simp only [an4, an5, an6, an7, an8, an9, aoa, aob] at ags
   refine WL.bF Y (Ev.field (q := ⟨g1, 4, none⟩) uK Y Y) Y <| WL.bF Y (Ev.aj bf Y (K1.x s0) Y) Y <| WL.bF Y (Ev.leq Y Y) Y ?_
   refine ev (Ev.bq Y Y) ?_
   exact WL.bM Y
  | false =>
   refine WL.pass Y Y Y <| WL.pass Y Y Y <| WL.pass Y Y Y <| ev (Ev.bn Y Y) ?_
   exact WL.bM Y
 refine aR Y <| dn ?_
 refine WP.ret (aA.aD Y Y Y ?_)
 have hq1 : ((((((((((decide (1 ≤ x.dw)) && (decide (x.dw ≤ 16))) && (decide (1 ≤ x.To))) && (decide (x.To ≤ 16))) && (!decide (x.dw = x.To))) && (decide (1 ≤ x.aB))) && (decide (1 ≤ x.ay))) && (decide (0 ≤ x.dQ))) && (decide (x.dQ ≤ 1099511627776))) : Bool) = (qZ x) := by unfold qZ jR; simp only [Bool.and_assoc]
 exact ⟨by rw [hq1] <;> rfl, (K1.rm s0)⟩
theorem xw {S0 : Nat → Prop} (w : World) {d9 : an3} {eu : Nat} {l : List ALease} (dN : Sl tLease S0 w d9 eu l) (bO : Int) :
    bY Tryz.prog 157 #[.slice d9 l.length eu, .int .i64 bO] w fun v w' => v = .tuple #[.int .i64 ((sends l bO : Nat) : Int), .int .i64 ((takes l bO : Nat) : Int)] ∧ Hp w S0 w' [] := by
 refine WP.enter Tryz.func157 Y Tryz.ntmps157 Y ?_
 have H0 := Hp.init w S0
 have iJ := dN.aN
 refine rg <| aR Y <| aR Y <| dn <| rg <| aR Y <| dn <| rg <| aR Y <| dn <| WP.seq <| rg <| aR Y <| dn <| WP.block ?_
 have hq1 : (0 : Int) = ((sends (l.take 0) bO : Nat) : Int) := by rfl
 refine WP.re (t := 6) Y (congrArg (Value.int .i64) hq1) ?_
 have hq2 : (0 : Int) = ((takes (l.take 0) bO : Nat) : Int) := by rfl
 refine WP.re (t := 7) Y (congrArg (Value.int .i64) hq2) <| Lp H0 (fun l0 rk mJ lJ wJ => ∃ (k : Nat), lJ = (6, .int .i64 ((sends (l.take k) bO : Nat) : Int)) :: (7, .int .i64 ((takes (l.take k) bO : Nat) : Int)) :: (8, .int .i64 ((k : Nat) : Int)) :: l0 ∧ mJ = l.length - k ∧ k ≤ l.length ∧ Hp w S0 wJ rk) ⟨0, Y, Y, Nat.zero_le _, H0⟩ Y ?_
 rintro _ _ w1 ⟨k, rfl, rfl, hk, K1⟩
 refine WP.seq <| rg <| mv Y <| mv Y <| ev (Ev.len Tryz.underlying28 Y) <| ev (Ev.lss Y Y) <| dn ?_
 refine WP.aG Y (fun iL => ?_) (fun iL => ?_)
 ·
  replace iL := of_decide_eq_true iL
  refine WP.skip (aA.norm ?_)
  refine WP.seq <| WP.block <| WP.seq ?_
  have hs1 := nE l k bO
  have hs2 := nG l k bO
  refine rg <| mv Y <| mv Y ?_
  obtain ⟨x1, hx1⟩ := get_some (xs := l) (i := k) (by omega)
  refine ev (Ev.index (i := k) Tryz.underlying28 lu Y Y Y (aC hx1) ((K1.a dN).some_ hx1)) <| ev (Ev.field qc Y (bJ _ _ _)) <| ev (Ev.aZ bf Y ((K1.a dN).aX (j := 2) hx1 Y)) ?_
  refine mv Y <| ev (Ev.eql Y Y) <| dn ?_
  refine WP.aG Y (fun hc21 => ?_) (fun hc21 => ?_)
  ·
   replace hc21 := of_decide_eq_true hc21
   refine eP <| mv Y <| ev (Ev.add Y Y (eX.mk (by omega) (by omega))) <| aR Y <| eT <| aA.norm <| rg <| mv Y <| mv Y <| ev (Ev.index (i := k) Tryz.underlying28 lu Y Y Y (aC hx1) ((K1.a dN).some_ hx1)) <| ev (Ev.field jl Y (bJ _ _ _)) <| ev (Ev.aZ bf Y ((K1.a dN).aX (j := 3) hx1 Y)) <| mv Y <| ev (Ev.eql Y Y) <| dn ?_
   refine WP.aG Y (fun sO => ?_) (fun sO => ?_)
   ·
    replace sO := of_decide_eq_true sO
    refine eP <| mv Y <| ev (Ev.add Y Y (eX.mk (by omega) (by omega))) <| aR Y <| eT <| aA.aS (aA.norm ?_)
    refine eP <| mv Y <| ev (Ev.add Y Y (eX.mk (by omega) (by omega))) <| aR Y <| eT ?_
    have hq3 : (((sends (l.take k) bO + 1 : Nat) : Int) : Int) = ((sends (l.take (k + 1)) bO : Nat) : Int) := by rw [lT hx1]; simp [hc21]
    refine aA.re (t := 6) Y (congrArg (Value.int .i64) hq3) ?_
    have hq4 : (((takes (l.take k) bO + 1 : Nat) : Int) : Int) = ((takes (l.take (k + 1)) bO : Nat) : Int) := by rw [lU hx1]; simp [sO]
    refine aA.re (t := 7) Y (congrArg (Value.int .i64) hq4) ?_
    exact aA.ag ⟨(k + 1), Y, Y, by omega, K1⟩ rfl (by omega)
   replace sO := of_decide_eq_false sO
   refine WP.skip (aA.aS (aA.norm ?_))
   refine eP <| mv Y <| ev (Ev.add Y Y (eX.mk (by omega) (by omega))) <| aR Y <| eT ?_
   have kP : (((sends (l.take k) bO + 1 : Nat) : Int) : Int) = ((sends (l.take (k + 1)) bO : Nat) : Int) := by rw [lT hx1]; simp [hc21]
   refine aA.re (t := 6) Y (congrArg (Value.int .i64) kP) ?_
   have ny : (((takes (l.take k) bO : Nat) : Int) : Int) = ((takes (l.take (k + 1)) bO : Nat) : Int) := by rw [lU hx1]; simp [sO]
   refine aA.re (t := 7) Y (congrArg (Value.int .i64) ny) ?_
   exact aA.ag ⟨(k + 1), Y, Y, by omega, K1⟩ rfl (by omega)
  replace hc21 := of_decide_eq_false hc21
  refine WP.skip (aA.norm ?_)
  refine rg <| mv Y <| mv Y <| ev (Ev.index (i := k) Tryz.underlying28 lu Y Y Y (aC hx1) ((K1.a dN).some_ hx1)) <| ev (Ev.field jl Y (bJ _ _ _)) <| ev (Ev.aZ bf Y ((K1.a dN).aX (j := 3) hx1 Y)) <| mv Y <| ev (Ev.eql Y Y) <| dn ?_
  refine WP.aG Y (fun sO => ?_) (fun sO => ?_)
  ·
   replace sO := of_decide_eq_true sO
   refine eP <| mv Y <| ev (Ev.add Y Y (eX.mk (by omega) (by omega))) <| aR Y <| eT <| aA.aS (aA.norm ?_)
   refine eP <| mv Y <| ev (Ev.add Y Y (eX.mk (by omega) (by omega))) <| aR Y <| eT ?_
   have kT : (((sends (l.take k) bO : Nat) : Int) : Int) = ((sends (l.take (k + 1)) bO : Nat) : Int) := by rw [lT hx1]; simp [hc21]
   refine aA.re (t := 6) Y (congrArg (Value.int .i64) kT) ?_
   have hq8 : (((takes (l.take k) bO + 1 : Nat) : Int) : Int) = ((takes (l.take (k + 1)) bO : Nat) : Int) := by rw [lU hx1]; simp [sO]
   refine aA.re (t := 7) Y (congrArg (Value.int .i64) hq8) ?_
   exact aA.ag ⟨(k + 1), Y, Y, by omega, K1⟩ rfl (by omega)
  replace sO := of_decide_eq_false sO
  refine WP.skip (aA.aS (aA.norm ?_))
  refine eP <| mv Y <| ev (Ev.add Y Y (eX.mk (by omega) (by omega))) <| aR Y <| eT ?_
  have uj : (((sends (l.take k) bO : Nat) : Int) : Int) = ((sends (l.take (k + 1)) bO : Nat) : Int) := by rw [lT hx1]; simp [hc21]
  refine aA.re (t := 6) Y (congrArg (Value.int .i64) uj) ?_
  have jK : (((takes (l.take k) bO : Nat) : Int) : Int) = ((takes (l.take (k + 1)) bO : Nat) : Int) := by rw [lU hx1]; simp [sO]
  refine aA.re (t := 7) Y (congrArg (Value.int .i64) jK) ?_
  exact aA.ag ⟨(k + 1), Y, Y, by omega, K1⟩ rfl (by omega)
 replace iL := of_decide_eq_false iL
 refine WP.exit (aA.aF (aA.aF (aA.bS (aA.norm ?_))))
 refine rg <| mv Y <| mv Y <| aR Y <| aR Y <| dn ?_
 refine WP.ret (aA.aD Y Y Y ?_)
 have hq11 : (sends (l.take k) bO : Nat) = (sends l bO) := by rw [List.take_of_length_le (by omega)]
 have hq12 : (takes (l.take k) bO : Nat) = (takes l bO) := by rw [List.take_of_length_le (by omega)]
 exact ⟨by rw [hq11, hq12] <;> rfl, K1⟩
theorem XL {S0 : Nat → Prop} (w : World) {d9 : an3} {eu : Nat} {l : List ALease} (dN : Sl tLease S0 w d9 eu l) (dJ : Int) (dM : Int) :
    bY Tryz.prog 163 #[.slice d9 l.length eu, .int .i64 dJ, .int .i64 dM] w fun v w' => v = .int .i64 (rJ l dJ dM) ∧ Hp w S0 w' [] := by
 refine WP.enter Tryz.func163 Y Tryz.ntmps163 Y ?_
 have H0 := Hp.init w S0
 have iJ := dN.aN
 refine rg <| aR Y <| dn <| WP.seq <| rg <| aR Y <| dn <| WP.block <| Lp H0 (fun l0 rk mJ lJ wJ => ∃ (k : Nat), lJ = (7, .int .i64 ((k : Nat) : Int)) :: l0 ∧ mJ = l.length - k ∧ k ≤ l.length ∧ (∀ y ∈ l.take k, (decide (y.aB = dJ) && decide (y.To = dM)) = false) ∧ Hp w S0 wJ rk) ⟨0, Y, Y, Nat.zero_le _, by simp, H0⟩ rfl ?_
 rintro _ _ w1 ⟨k, rfl, rfl, hk, hno, K1⟩
 refine WP.seq <| rg <| mv Y <| mv Y <| ev (Ev.len Tryz.underlying28 Y) <| ev (Ev.lss Y Y) <| dn ?_
 refine WP.aG Y (fun fK => ?_) (fun fK => ?_)
 ·
  replace fK := of_decide_eq_true fK
  refine WP.skip (aA.norm ?_)
  refine WP.seq <| WP.block <| rg <| mv Y <| mv Y ?_
  obtain ⟨x1, hx1⟩ := get_some (xs := l) (i := k) (by omega)
  refine ev (Ev.index (i := k) Tryz.underlying28 lu Y Y Y (aC hx1) ((K1.a dN).some_ hx1)) <| ev (Ev.field rM Y (bJ _ _ _)) <| ev (Ev.aZ bf Y ((K1.a dN).aX (j := 0) hx1 Y)) ?_
  refine mv Y <| ev (Ev.eql Y Y) <| mv Y ?_
  refine WL.dR 8 29 ((decide (x1.aB = dJ)) && (decide (x1.To = dM))) ?_ ?_
  ·
   cases F9 : decide (x1.aB = dJ) with
   | true =>
    have EN := of_decide_eq_true F9
    refine WL.bF Y (Ev.move Y) Y <| WL.bF Y (Ev.move Y) Y <| WL.bF Y (Ev.index (i := k) Tryz.underlying28 lu Y Y Y (aC hx1) ((K1.a dN).some_ hx1)) Y ?_
    refine WL.bF Y (Ev.field jl Y (bJ _ _ _)) Y <| WL.bF Y (Ev.aZ bf Y ((K1.a dN).aX (j := 3) hx1 Y)) Y <| WL.bF Y (Ev.move Y) Y ?_
    refine WL.bF Y (Ev.eql Y Y) Y <| ev (Ev.bq Y Y) ?_
    exact WL.bM Y
   | false =>
    refine WL.pass Y Y Y <| WL.pass Y Y Y <| WL.pass Y Y Y <| WL.pass Y Y Y <| WL.pass Y Y Y <| WL.pass Y Y Y <| WL.pass Y Y Y <| ev (Ev.bn Y Y) ?_
    exact WL.bM Y
  refine dn ?_
  refine WP.aG Y (fun hc29 => ?_) (fun hc29 => ?_)
  ·
   refine rg <| mv Y <| aR Y <| dn ?_
   refine WP.ret (aA.bW (aA.aP (aA.aP (aA.bW (aA.aP (aA.aD Y Y Y ?_))))))
   have hq1 : (((k : Nat) : Int) : Int) = (rJ l dJ dM) := by exact (jU (p := fun (y : ALease) => (decide (y.aB = dJ) && decide (y.To = dM))) hno hx1 hc29).symm
   exact ⟨by rw [hq1] <;> rfl, K1⟩
  refine WP.skip (aA.aS (aA.norm ?_))
  refine eP <| mv Y <| ev (Ev.add Y Y (eX.mk (by omega) (by omega))) <| aR Y <| eT ?_
  exact aA.ag ⟨(k + 1), Y, Y, by omega, by exact gP (q := fun (y : ALease) => (decide (y.aB = dJ) && decide (y.To = dM)) = false) hno hx1 hc29, K1⟩ rfl (by omega)
 replace fK := of_decide_eq_false fK
 refine WP.exit (aA.aF (aA.aF (aA.bS (aA.norm ?_))))
 refine rg <| aR Y <| dn ?_
 refine WP.ret (aA.aD Y Y Y ?_)
 have hq2 : ((-1) : Int) = (rJ l dJ dM) := by exact (kI (p := fun (y : ALease) => (decide (y.aB = dJ) && decide (y.To = dM))) (jf hno (by omega))).symm
 exact ⟨by rw [← hq2] <;> rfl, K1⟩
theorem Nv {S0 : Nat → Prop} (w : World) {d9 : an3} {eu : Nat} {l : List ALease} (dN : Sl tLease S0 w d9 eu l) (x : ALease) (bg : Int) (all : Int) (hn : l.length ≤ 100000) :
    bY Tryz.prog 106 #[.slice d9 l.length eu, .agg #[.int .i64 x.aB, .int .i64 x.ay, .int .i64 x.dw, .int .i64 x.To, .int .i64 x.dQ], .int .i64 bg, .int .i64 all] w fun v w' => ∃ (A0 : an3) (c0 : Nat), v = .tuple #[.slice A0 ((gB l x bg all).length) c0, .int .i64 (gH l x bg all)] ∧ Hp w S0 w' [aQ tLease 77 A0 c0 (gB l x bg all)] := by
 refine WP.enter Tryz.func106 Y Tryz.ntmps106 Y ?_
 have H0 := Hp.init w S0
 have iJ := dN.aN
 refine rg ?_
 refine bx Y Y H0 fun g1 w1 K1 => ?_
 refine aR Y <| aR Y <| dn <| rg <| ev (Ev.bX pK Y Y (K1.x s0)) ?_
 refine C0 K1 Y Y Y ado (TF (S0 := Any) _ x) fun w2 K2 => ?_
 refine aR Y <| dn <| WP.seq <| rg <| mv Y <| ev (Ev.not Y) <| dn ?_
 refine WP.aG Y (fun hc19 => ?_) (fun hc19 => ?_)
 ·
  try simp only [an4, an5, an6, an7, an8, an9, aoa, aob] at hc19
  refine rg <| aR Y <| aR Y <| dn ?_
  refine WP.ret (aA.aP (aA.aD Y Y Y ?_))
  have H1 := K2.nil tLease 77
  have hq1 : (([] : List ALease) : List ALease) = (gB l x bg all) := by have hm : qZ x = false := (by simpa using hc19); unfold gB; rw [if_neg]; unfold gH; rw [if_pos hm]; decide
  have H2 := (hq1 ▸ H1 : Hp w S0 w2 (aQ tLease 77 none 0 (gB l x bg all) :: [dG g1 77 [.int .i64 x.aB, .int .i64 x.ay, .int .i64 x.dw, .int .i64 x.To, .int .i64 x.dQ]]))
  have hq2 : (1 : Int) = (gH l x bg all) := by have hm : qZ x = false := (by simpa using hc19); unfold gH; rw [if_pos hm]
  exact ⟨none, 0, by rw [← hq1, ← hq2] <;> rfl, (H2.rm s1)⟩
 try simp only [an4, an5, an6, an7, an8, an9, aoa, aob] at hc19
 refine WP.skip (aA.norm ?_)
 refine WP.seq <| rg <| mv Y <| ev (Ev.field (q := ⟨g1, 0, none⟩) rM Y Y) <| ev (Ev.aj bf Y (K2.x s0) Y) <| ev (Ev.field (q := ⟨g1, 3, none⟩) jl Y Y) <| ev (Ev.aj bf Y (K2.x s0) Y) ?_
 refine C0 K2 Y Y Y adp (XL _ (K2.a dN).any x.aB x.To) fun w3 K3 => ?_
 refine ev (Ev.geq Y Y) <| dn ?_
 refine WP.aG Y (fun FE => ?_) (fun FE => ?_)
 ·
  replace FE := of_decide_eq_true FE
  refine rg <| aR Y <| aR Y <| dn ?_
  refine WP.ret (aA.aP (aA.aD Y Y Y ?_))
  have H3 := K3.nil tLease 77
  have hq3 : (([] : List ALease) : List ALease) = (gB l x bg all) := by have hm : qZ x = true := (by simpa using hc19); unfold gB; rw [if_neg]; unfold gH; rw [if_neg (by rw [hm]; decide), if_pos FE]; decide
  have H4 := (hq3 ▸ H3 : Hp w S0 w3 (aQ tLease 77 none 0 (gB l x bg all) :: [dG g1 77 [.int .i64 x.aB, .int .i64 x.ay, .int .i64 x.dw, .int .i64 x.To, .int .i64 x.dQ]]))
  have hq4 : (6 : Int) = (gH l x bg all) := by have hm : qZ x = true := (by simpa using hc19); unfold gH; rw [if_neg (by rw [hm]; decide), if_pos FE]
  exact ⟨none, 0, by rw [← hq3, ← hq4] <;> rfl, (H4.rm s1)⟩
 replace FE := of_decide_eq_false FE
 refine WP.skip (aA.norm ?_)
 refine rg <| mv Y <| ev (Ev.field (q := ⟨g1, 2, none⟩) qc Y Y) <| ev (Ev.aj bf Y (K3.x s0) Y) ?_
 refine C0 K3 Y Y Y Pn (xw _ (K3.a dN).any x.dw) fun w4 K4 => ?_
 refine mv Y <| xt Y Y <| xt Y Y <| aR Y <| aR Y <| dn <| rg <| mv Y <| ev (Ev.field (q := ⟨g1, 3, none⟩) jl Y Y) <| ev (Ev.aj bf Y (K4.x s0) Y) ?_
 refine C0 K4 Y Y Y Pn (xw _ (K4.a dN).any x.To) fun w5 K5 => ?_
 refine mv Y <| xt Y Y <| xt Y Y <| aR Y <| aR Y <| dn <| WP.seq <| rg <| mv Y <| ev (Ev.len Tryz.underlying28 Y) <| mv Y <| ev (Ev.geq Y Y) <| mv Y ?_
 refine WL.dR 4 49 ((decide (all ≤ ((l.length : Nat) : Int))) || (decide (bg ≤ ((sends l x.dw : Nat) : Int)))) ?_ ?_
 ·
  cases ab1 : decide (all ≤ ((l.length : Nat) : Int)) with
  | true =>
   refine WL.pass Y Y Y <| WL.pass Y Y Y <| WL.pass Y Y Y <| ev (Ev.bq Y Y) ?_
   exact WL.bM Y
  | false =>
   have aeE := of_decide_eq_false ab1
   refine WL.bF Y (Ev.move Y) Y <| WL.bF Y (Ev.move Y) Y <| WL.bF Y (Ev.geq Y Y) Y <| ev (Ev.bn Y Y) ?_
   exact WL.bM Y
 refine mv Y ?_
 refine WL.dR 4 54 (((decide (all ≤ ((l.length : Nat) : Int))) || (decide (bg ≤ ((sends l x.dw : Nat) : Int)))) || (decide (bg ≤ ((takes l x.To : Nat) : Int)))) ?_ ?_
 ·
  cases ab2 : ((decide (all ≤ ((l.length : Nat) : Int))) || (decide (bg ≤ ((sends l x.dw : Nat) : Int)))) with
  | true =>
   refine WL.pass Y Y Y <| WL.pass Y Y Y <| WL.pass Y Y Y <| ev (Ev.bq Y Y) ?_
   exact WL.bM Y
  | false =>
   have Vp := ab2
   try simp only [Bool.or_eq_true, Bool.or_eq_false_iff, decide_eq_true_eq, decide_eq_false_iff_not] at Vp
   refine WL.bF Y (Ev.move Y) Y <| WL.bF Y (Ev.move Y) Y <| WL.bF Y (Ev.geq Y Y) Y <| ev (Ev.bn Y Y) ?_
   exact WL.bM Y
 refine dn ?_
 refine WP.aG Y (fun XM => ?_) (fun XM => ?_)
 ·
  refine rg <| aR Y <| aR Y <| dn ?_
  refine WP.ret (aA.aP (aA.aD Y Y Y ?_))
  have H5 := K5.nil tLease 77
  have kP : (([] : List ALease) : List ALease) = (gB l x bg all) := by have hm : qZ x = true := (by simpa using hc19); have hf : ¬ 0 ≤ rJ l x.aB x.To := FE; have hx : all ≤ l.length ∨ bg ≤ sends l x.dw ∨ bg ≤ takes l x.To := (by simpa [or_assoc] using XM); unfold gB; rw [if_neg]; unfold gH; rw [if_neg (by rw [hm]; decide), if_neg hf, if_pos hx]; decide
  have H6 := (kP ▸ H5 : Hp w S0 w5 (aQ tLease 77 none 0 (gB l x bg all) :: [dG g1 77 [.int .i64 x.aB, .int .i64 x.ay, .int .i64 x.dw, .int .i64 x.To, .int .i64 x.dQ]]))
  have ny : (7 : Int) = (gH l x bg all) := by have hm : qZ x = true := (by simpa using hc19); have hf : ¬ 0 ≤ rJ l x.aB x.To := FE; have hx : all ≤ l.length ∨ bg ≤ sends l x.dw ∨ bg ≤ takes l x.To := (by simpa [or_assoc] using XM); unfold gH; rw [if_neg (by rw [hm]; decide), if_neg hf, if_pos hx]
  exact ⟨none, 0, by rw [← kP, ← ny] <;> rfl, (H6.rm s1)⟩
 refine WP.skip (aA.norm ?_)
 refine rg <| mv Y ?_
 have H7 := K5.nil tLease 77
 refine ap (ys := l) H7 s0 Y Y (H7.a dN).any Tryz.underlying28 BQ (by simp) (by first | omega | (simp; omega) | (simp; done)) rfl fun jg jh w6 K6 => ?_
 refine aR Y <| dn <| WP.keep' [(5, .pointer (some ⟨g1, 0, none⟩)), (15, .slice jg ((([] : List ALease) ++ l).length) jh)] Y <| rg <| mv Y <| ev (Ev.bX pK Y Y (K6.x s1)) ?_
 refine ni (τ := tLease) (x := x) Y (by intro _; apply jY) rfl K6 (fun _ _ => rfl) fun g2 w7 K7 => ?_
 refine ap (ys := ([x] : List ALease)) K7 s1 Y Y (K7.o s0) Tryz.underlying28 BQ (by first | omega | (simp; omega) | (simp; done)) (by simp) rfl fun G5 cp2 w8 K8 => ?_
 refine aR Y <| aR Y <| dn ?_
 refine WP.ret (aA.aD Y Y Y ?_)
 have kT : (((([] : List ALease) ++ l) ++ ([x] : List ALease)) : List ALease) = (gB l x bg all) := by have hm : qZ x = true := (by simpa using hc19); have hf : ¬ 0 ≤ rJ l x.aB x.To := FE; have hx : ¬ (all ≤ l.length ∨ bg ≤ sends l x.dw ∨ bg ≤ takes l x.To) := (by have h := XM; simp at h ⊢; omega); unfold gB; rw [if_pos (by unfold gH; rw [if_neg (by rw [hm]; decide), if_neg hf, if_neg hx])]; simp
 rw [kT] at K8
 have hq8 : (0 : Int) = (gH l x bg all) := by have hm : qZ x = true := (by simpa using hc19); have hf : ¬ 0 ≤ rJ l x.aB x.To := FE; have hx : ¬ (all ≤ l.length ∨ bg ≤ sends l x.dw ∨ bg ≤ takes l x.To) := (by have h := XM; simp at h ⊢; omega); unfold gH; rw [if_neg (by rw [hm]; decide), if_neg hf, if_neg hx]
 exact ⟨G5, cp2, by rw [kT, ← hq8] <;> rfl, ((K8.rm s2).rm s1)⟩
theorem J3 {S0 : Nat → Prop} (w : World) {d9 : an3} {eu : Nat} {l : List ALease} (dN : Sl tLease S0 w d9 eu l) (now : Int) (hn : l.length ≤ 100000) :
    bY Tryz.prog 56 #[.slice d9 l.length eu, .int .i64 now] w fun v w' => ∃ (A0 : an3) (c0 : Nat) (A1 : an3) (c1 : Nat), v = .tuple #[.slice A0 ((l.filter (sQ now)).length) c0, .slice A1 ((l.filter (nH now)).length) c1] ∧ Hp w S0 w' [aQ tLease 77 A0 c0 (l.filter (sQ now)), aQ tLease 77 A1 c1 (l.filter (nH now))] := by
 refine WP.enter Tryz.func56 Y Tryz.ntmps56 Y ?_
 have H0 := Hp.init w S0
 have iJ := dN.aN
 have hp1 := fun k => nX (sQ now) l k
 have hp2 := fun k => nX (nH now) l k
 refine rg <| aR Y <| aR Y <| dn <| rg <| aR Y <| dn <| rg <| aR Y <| dn <| WP.seq <| rg <| aR Y <| dn <| WP.block ?_
 have H1 := H0.nil tLease 77
 have H2 := H1.nil tLease 77
 have hq1 : (([] : List ALease) : List ALease) = ((l.take 0).filter (sQ now)) := by rfl
 refine WP.re (t := 6) Y (congrArg (fun z => Value.slice none (List.length z) 0) hq1) ?_
 have hq2 : (([] : List ALease) : List ALease) = ((l.take 0).filter (nH now)) := by rfl
 refine WP.re (t := 7) Y (congrArg (fun z => Value.slice none (List.length z) 0) hq2) ?_
 have H3 := H2.nil tLease 77
 have H4 := (hq1 ▸ H3 : Hp w S0 w (aQ tLease 77 none 0 ((l.take 0).filter (sQ now)) :: [aQ tLease 77 none 0 [], aQ tLease 77 none 0 []]))
 have H5 := H4.nil tLease 77
 have H6 := (hq2 ▸ H5 : Hp w S0 w (aQ tLease 77 none 0 ((l.take 0).filter (nH now)) :: [aQ tLease 77 none 0 ((l.take 0).filter (sQ now)), aQ tLease 77 none 0 [], aQ tLease 77 none 0 []]))
 refine Lp ((((H6.rm s3).rm s2).rm s1).rm s0) (fun l0 rk mJ lJ wJ => ∃ (k : Nat) (A6 : an3) (c6 : Nat) (A7 : an3) (c7 : Nat), lJ = (6, .slice A6 (((l.take k).filter (sQ now)).length) c6) :: (7, .slice A7 (((l.take k).filter (nH now)).length) c7) :: (8, .int .i64 ((k : Nat) : Int)) :: l0 ∧ mJ = l.length - k ∧ k ≤ l.length ∧ Hp w S0 wJ (aQ tLease 77 A6 c6 ((l.take k).filter (sQ now)) :: aQ tLease 77 A7 c7 ((l.take k).filter (nH now)) :: rk)) ⟨0, none, 0, none, 0, Y, Y, Nat.zero_le _, ((((H6.rm s3).rm s2).sel s0).sel s1)⟩ Y ?_
 rintro _ _ w1 ⟨k, A6, c6, A7, c7, rfl, rfl, hk, K1⟩
 refine WP.seq <| rg <| mv Y <| mv Y <| ev (Ev.len Tryz.underlying28 Y) <| ev (Ev.lss Y Y) <| dn ?_
 refine WP.aG Y (fun iL => ?_) (fun iL => ?_)
 ·
  replace iL := of_decide_eq_true iL
  refine WP.skip (aA.norm ?_)
  refine WP.seq <| WP.block <| rg <| mv Y <| mv Y ?_
  obtain ⟨x1, hx1⟩ := get_some (xs := l) (i := k) (by omega)
  refine ev (Ev.index (i := k) Tryz.underlying28 lu Y Y Y (aC hx1) ((K1.a dN).some_ hx1)) <| ev (Ev.field uK Y (bJ _ _ _)) <| ev (Ev.aZ bf Y ((K1.a dN).aX (j := 4) hx1 Y)) ?_
  refine mv Y <| ev (Ev.geq Y Y) <| dn ?_
  refine WP.aG Y (fun hc21 => ?_) (fun hc21 => ?_)
  ·
   replace hc21 := of_decide_eq_true hc21
   refine eP <| mv Y <| mv Y <| mv Y <| ev (Ev.index (i := k) Tryz.underlying28 lu Y Y Y (aC hx1) ((K1.a dN).some_ hx1)) <| ev (Ev.loadRow pK Y Y ((K1.a dN).dx hx1)) ?_
   refine ni (τ := tLease) (x := x1) Y (by intro _; apply jY) rfl K1 (fun _ _ => rfl) fun g1 w2 K2 => ?_
   refine ap (ys := ([x1] : List ALease)) K2 s1 Y Y (K2.o s0) Tryz.underlying28 BQ (by have := hp1 k; omega) (by simp) rfl fun jg jh w3 K3 => ?_
   refine aR Y <| eT ?_
   refine aA.aS (aA.norm ?_)
   refine eP <| mv Y <| ev (Ev.add Y Y (eX.mk (by omega) (by omega))) <| aR Y <| eT ?_
   have hq3 : ((((l.take k).filter (sQ now)) ++ ([x1] : List ALease)) : List ALease) = ((l.take (k + 1)).filter (sQ now)) := by rw [iE hx1]; simp [sQ]; omega
   refine aA.re (t := 6) Y (congrArg (fun z => Value.slice jg (List.length z) jh) hq3) ?_
   have hq4 : (((l.take k).filter (nH now)) : List ALease) = ((l.take (k + 1)).filter (nH now)) := by rw [iE hx1]; simp [nH]; omega
   refine aA.re (t := 7) Y (congrArg (fun z => Value.slice A7 (List.length z) c7) hq4) ?_
   rw [hq3] at K3
   rw [hq4] at K3
   exact aA.ag ⟨(k + 1), jg, jh, A7, c7, Y, Y, by omega, (K3.rm s1)⟩ rfl (by omega)
  replace hc21 := of_decide_eq_false hc21
  refine eP <| mv Y <| mv Y <| mv Y <| ev (Ev.index (i := k) Tryz.underlying28 lu Y Y Y (aC hx1) ((K1.a dN).some_ hx1)) <| ev (Ev.loadRow pK Y Y ((K1.a dN).dx hx1)) ?_
  refine ni (τ := tLease) (x := x1) Y (by intro _; apply jY) rfl K1 (fun _ _ => rfl) fun g2 w4 K4 => ?_
  refine ap (ys := ([x1] : List ALease)) K4 s2 Y Y (K4.o s0) Tryz.underlying28 BQ (by have := hp2 k; omega) (by simp) rfl fun G5 cp2 w5 K5 => ?_
  refine aR Y <| eT ?_
  refine aA.aS (aA.norm ?_)
  refine eP <| mv Y <| ev (Ev.add Y Y (eX.mk (by omega) (by omega))) <| aR Y <| eT ?_
  have kP : (((l.take k).filter (sQ now)) : List ALease) = ((l.take (k + 1)).filter (sQ now)) := by rw [iE hx1]; simp [sQ]; omega
  refine aA.re (t := 6) Y (congrArg (fun z => Value.slice A6 (List.length z) c6) kP) ?_
  have ny : ((((l.take k).filter (nH now)) ++ ([x1] : List ALease)) : List ALease) = ((l.take (k + 1)).filter (nH now)) := by rw [iE hx1]; simp [nH]; omega
  refine aA.re (t := 7) Y (congrArg (fun z => Value.slice G5 (List.length z) cp2) ny) ?_
  rw [kP] at K5
  rw [ny] at K5
  exact aA.ag ⟨(k + 1), A6, c6, G5, cp2, Y, Y, by omega, (((K5.rm s1).sel s0).sel s1)⟩ rfl (by omega)
 replace iL := of_decide_eq_false iL
 refine WP.exit (aA.aF (aA.aF (aA.bS (aA.norm ?_))))
 refine rg <| mv Y <| mv Y <| aR Y <| aR Y <| dn ?_
 refine WP.ret (aA.aD Y Y Y ?_)
 have kT : (((l.take k).filter (sQ now)) : List ALease) = (l.filter (sQ now)) := by rw [List.take_of_length_le (by omega)]
 rw [kT] at K1
 have hq8 : (((l.take k).filter (nH now)) : List ALease) = (l.filter (nH now)) := by rw [List.take_of_length_le (by omega)]
 rw [hq8] at K1
 exact ⟨A6, c6, A7, c7, by rw [kT, hq8] <;> rfl, K1⟩
theorem Po {S0 : Nat → Prop} (w : World) {d9 : an3} {eu : Nat} {l : List ALease} (dN : Sl tLease S0 w d9 eu l) {eY : an3} {eZ : Nat} {ak : List Int} (dU : Sl tInt S0 w eY eZ ak) (bg : Int) :
    bY Tryz.prog 98 #[.slice d9 l.length eu, .slice eY ak.length eZ, .int .i64 bg] w fun v w' => v = .tuple #[.int .i64 (lV l ak bg), .bool (lq l ak bg)] ∧ Hp w S0 w' [] := by
 refine WP.enter Tryz.func98 Y Tryz.ntmps98 Y ?_
 have H0 := Hp.init w S0
 have iJ := dN.aN
 have mU := dU.aN
 refine rg <| aR Y <| aR Y <| dn <| WP.seq <| rg <| aR Y <| dn <| WP.block <| Lp H0 (fun l0 rk mJ lJ wJ => ∃ (k : Nat), lJ = (8, .int .i64 ((k : Nat) : Int)) :: l0 ∧ mJ = ak.length - k ∧ k ≤ ak.length ∧ (∀ y ∈ ak.take k, oM l bg y = false) ∧ Hp w S0 wJ rk) ⟨0, Y, Y, Nat.zero_le _, by simp, H0⟩ rfl ?_
 rintro _ _ w1 ⟨k, rfl, rfl, hk, hno, K1⟩
 refine WP.seq <| rg <| mv Y <| mv Y <| ev (Ev.len Tryz.underlying51 Y) <| ev (Ev.lss Y Y) <| dn ?_
 refine WP.aG Y (fun fE => ?_) (fun fE => ?_)
 ·
  replace fE := of_decide_eq_true fE
  refine WP.skip (aA.norm ?_)
  refine WP.seq <| WP.block <| rg <| mv Y <| mv Y <| mv Y ?_
  obtain ⟨x1, hx1⟩ := get_some (xs := ak) (i := k) (by omega)
  refine ev (Ev.index (i := k) Tryz.underlying51 iC Y Y Y (aC hx1) ((K1.a dU).some_ hx1)) <| ev (Ev.aZ bf Y ((K1.a dU).aX (j := 0) hx1 Y)) ?_
  refine C0 K1 Y Y Y Pn (xw _ (K1.a dN).any x1) fun w2 K2 => ?_
  refine mv Y <| xt Y Y <| xt Y Y <| aR Y <| aR Y <| dn <| rg <| mv Y <| mv Y <| ev (Ev.lss Y Y) <| dn ?_
  refine WP.aG Y (fun hc28 => ?_) (fun hc28 => ?_)
  ·
   replace hc28 := of_decide_eq_true hc28
   refine rg <| mv Y <| mv Y <| ev (Ev.index (i := k) Tryz.underlying51 iC Y Y Y (aC hx1) ((K2.a dU).some_ hx1)) <| ev (Ev.aZ bf Y ((K2.a dU).aX (j := 0) hx1 Y)) <| aR Y <| aR Y <| dn ?_
   refine WP.ret (aA.bW (aA.aP (aA.aP (aA.bW (aA.aP (aA.aD Y Y Y ?_))))))
   have hq1 : (x1 : Int) = (lV l ak bg) := by unfold lV; rw [oN hno hx1 (by unfold oM; simp; omega)]
   have hq2 : (true : Bool) = (lq l ak bg) := by unfold lq; rw [oN hno hx1 (by unfold oM; simp; omega)]; rfl
   exact ⟨by rw [← hq1, ← hq2] <;> rfl, K2⟩
  replace hc28 := of_decide_eq_false hc28
  refine WP.skip (aA.aS (aA.norm ?_))
  refine eP <| mv Y <| ev (Ev.add Y Y (eX.mk (by omega) (by omega))) <| aR Y <| eT ?_
  exact aA.ag ⟨(k + 1), Y, Y, by omega, by exact gP (q := fun y => oM l bg y = false) hno hx1 (by unfold oM; simp; omega), K2⟩ rfl (by omega)
 replace fE := of_decide_eq_false fE
 refine WP.exit (aA.aF (aA.aF (aA.bS (aA.norm ?_))))
 refine rg <| aR Y <| aR Y <| dn ?_
 refine WP.ret (aA.aD Y Y Y ?_)
 have hq3 : (0 : Int) = (lV l ak bg) := by unfold lV; rw [qK (jf hno (by omega))]
 have hq4 : (false : Bool) = (lq l ak bg) := by unfold lq; rw [qK (jf hno (by omega))]; rfl
 exact ⟨by rw [← hq3, ← hq4] <;> rfl, K1⟩
theorem Pq {S0 : Nat → Prop} (w : World) {Gz : an3} {GA : Nat} {a : List ALease} (uD : Sl tLease S0 w Gz GA a) {GD : an3} {GH : Nat} {b : List ALease} (uE : Sl tLease S0 w GD GH b) :
    bY Tryz.prog 52 #[.slice Gz a.length GA, .slice GD b.length GH] w fun v w' => v = .bool (decide (a = b)) ∧ Hp w S0 w' [] := by
 refine WP.enter Tryz.func52 Y Tryz.ntmps52 Y ?_
 have H0 := Hp.init w S0
 have RI := uD.aN
 have RJ := uE.aN
 refine rg <| aR Y <| dn <| WP.seq <| rg <| mv Y <| ev (Ev.len Tryz.underlying28 Y) <| mv Y <| ev (Ev.len Tryz.underlying28 Y) <| ev (Ev.neq Y Y) <| dn ?_
 refine WP.aG Y (fun iR => ?_) (fun iR => ?_)
 ·
  replace iR := gJ iR
  refine rg <| aR Y <| dn ?_
  refine WP.ret (aA.aP (aA.aD Y Y Y ?_))
  have hq1 : (false : Bool) = (decide (a = b)) := by symm; simp only [decide_eq_false_iff_not]; intro h; subst h; exact iR rfl
  exact ⟨by rw [← hq1] <;> rfl, H0⟩
 replace iR := gD iR
 refine WP.skip (aA.norm ?_)
 refine WP.seq <| rg <| aR Y <| dn <| WP.block <| Lp H0 (fun l0 rk mJ lJ wJ => ∃ (k : Nat), lJ = (5, .int .i64 ((k : Nat) : Int)) :: l0 ∧ mJ = a.length - k ∧ k ≤ a.length ∧ (a.take k = b.take k) ∧ Hp w S0 wJ rk) ⟨0, Y, Y, Nat.zero_le _, by simp, H0⟩ rfl ?_
 rintro _ _ w1 ⟨k, rfl, rfl, hk, hse, K1⟩
 refine WP.seq <| rg <| mv Y <| mv Y <| ev (Ev.len Tryz.underlying28 Y) <| ev (Ev.lss Y Y) <| dn ?_
 refine WP.aG Y (fun fE => ?_) (fun fE => ?_)
 ·
  replace fE := of_decide_eq_true fE
  refine WP.skip (aA.norm ?_)
  refine WP.seq <| WP.block <| WP.draw (by kernel_rfl) (by kernel_rfl) <| WQ.ev (Ev.move Y) Y <| WQ.ev (Ev.move Y) Y ?_
  obtain ⟨x1, hx1⟩ := get_some (xs := a) (i := k) (by omega)
  refine WQ.ev (Ev.index (i := k) Tryz.underlying28 lu Y Y Y (aC hx1) ((K1.a uD).some_ hx1)) Y <| WQ.ev (Ev.loadRow pK Y Y ((K1.a uD).dx hx1)) Y ?_
  refine WQ.ev (Ev.move Y) Y <| WQ.ev (Ev.move Y) Y ?_
  obtain ⟨x2, hx2⟩ := get_some (xs := b) (i := k) (by omega)
  refine WQ.ev (Ev.index (i := k) Tryz.underlying28 lu Y Y Y (aC hx2) ((K1.a uE).some_ hx2)) Y <| WQ.ev (Ev.loadRow pK Y Y ((K1.a uE).dx hx2)) Y ?_
  refine WQ.ev (Ev.neS Y Y (ads x1 x2) adq) Y ?_
  refine WQ.done fun w2 e2 => ?_
  have K2 := K1.grow e2
  refine WP.aG Y (fun hc25 => ?_) (fun hc25 => ?_)
  ·
   replace hc25 := gJ hc25
   refine rg <| aR Y <| dn ?_
   refine WP.ret (aA.bW (aA.aP (aA.aP (aA.bW (aA.aP (aA.aD Y Y Y ?_))))))
   have hq2 : (false : Bool) = (decide (a = b)) := by symm; simp only [decide_eq_false_iff_not]; intro h; subst h; rw [hx1] at hx2; cases hx2; exact hc25 rfl
   exact ⟨by rw [← hq2] <;> rfl, K2⟩
  replace hc25 := gD hc25
  refine WP.skip (aA.aS (aA.norm ?_))
  refine eP <| mv Y <| ev (Ev.add Y Y (eX.mk (by omega) (by omega))) <| aR Y <| eT ?_
  exact aA.ag ⟨(k + 1), Y, Y, by omega, by exact sZ hse hx1 hx2 (by simpa using hc25), K2⟩ rfl (by omega)
 replace fE := of_decide_eq_false fE
 refine WP.exit (aA.aF (aA.aF (aA.bS (aA.norm ?_))))
 refine rg <| aR Y <| dn ?_
 refine WP.ret (aA.aD Y Y Y ?_)
 have hq3 : (true : Bool) = (decide (a = b)) := by symm; simp only [decide_eq_true_eq]; rw [List.take_of_length_le (by omega), List.take_of_length_le (by omega)] at hse; exact hse
 exact ⟨by rw [← hq3] <;> rfl, K1⟩
end Go.Proofs.YtjcklpooaaaglaaGreat
set_option maxRecDepth 4000
set_option linter.all false
namespace Go.Proofs.YtjcklpooaaaglaaGreat
open Go.RowKit
def CG (l : List ANode) (ids : List Int) (id : Int) : Bool := ids.any fun (y : Int) => (bZ l y && !decide (y = id)) && decide ((bL l y).dA = (bL l id).dA)
theorem XO {y id : Int} {m : List Int} (hn : ([y, id] : List Int).Nodup) (hs : ∀ z ∈ ([y, id] : List Int), z ∈ m) : ([y, id] : List Int).length ≤ m.length := by
  have hne : y ≠ id := by simpa using hn
  obtain ⟨i, hi⟩ := List.getElem?_of_mem (hs y (by simp))
  obtain ⟨j, hj⟩ := List.getElem?_of_mem (hs id (by simp))
  have h1 := aC hi; have h2 := aC hj
  have : i ≠ j := fun e => by subst e; rw [hi] at hj; exact hne (Option.some.inj hj)
  show 2 ≤ m.length
  omega
theorem QT {l : List ANode} {ids : List Int} (hu : ids.Pairwise (fun x y => x < y)) (hf : ∀ y ∈ ids, bZ l y = true) {id : Int} (hm : id ∈ ids) : Ja (ji l ids) l id = CG l ids id := by
  unfold Ja; rw [LG]
  rw [Bool.eq_iff_iff, decide_eq_true_eq]
  unfold CG; rw [List.any_eq_true]
  have hr : ∀ y, NH l y = (bL l y).dA := fun y => rfl
  constructor
  · intro h
    rcases Classical.em (∃ y ∈ ids, y ≠ id ∧ NH l y = NH l id) with ⟨y, hy, h1, h2⟩ | hno
    · exact ⟨y, hy, by rw [hf y hy, Bool.true_and, Bool.and_eq_true, Bool.not_eq_true', decide_eq_false_iff_not, decide_eq_true_eq]; exact ⟨h1, h2⟩⟩
    · exfalso
      have h1 : (ids.filter fun (y : Int) => decide (NH l y = NH l id)) = ids.filter fun (y : Int) => decide (y = id) := by
        apply List.filter_congr
        intro y hy
        rw [decide_eq_decide]
        constructor
        · intro e; rcases Classical.em (y = id) with h | h
          · exact h
          · exact absurd ⟨y, hy, h, e⟩ hno
        · intro e; rw [e]
      rw [h1] at h
      have h2 : (ids.filter fun (y : Int) => decide (y = id)).length ≤ 1 := by
        have h3 : (ids.filter fun (y : Int) => decide (y = id)).Pairwise (fun x y => x < y) := hu.filter _
        rcases hq : ids.filter (fun (y : Int) => decide (y = id)) with _ | ⟨a, _ | ⟨b, t⟩⟩
        · simp
        · simp
        · rw [hq] at h3
          have ha : a ∈ ids.filter (fun (y : Int) => decide (y = id)) := by rw [hq]; simp
          have hb : b ∈ ids.filter (fun (y : Int) => decide (y = id)) := by rw [hq]; simp
          have h4 := (List.pairwise_cons.1 h3).1 b (by simp)
          have := of_decide_eq_true (List.mem_filter.1 ha).2; have := of_decide_eq_true (List.mem_filter.1 hb).2
          omega
      omega
  · rintro ⟨y, hy, h⟩
    rw [hf y hy, Bool.true_and, Bool.and_eq_true, Bool.not_eq_true', decide_eq_false_iff_not, decide_eq_true_eq] at h
    have hsub : ([y, id] : List Int).length ≤ (ids.filter fun (y : Int) => decide (NH l y = NH l id)).length := by
      have hn : ([y, id] : List Int).Nodup := by simp [h.1]
      have hs : ∀ z ∈ ([y, id] : List Int), z ∈ ids.filter fun (y : Int) => decide (NH l y = NH l id) := by
        intro z hz
        rcases List.mem_cons.1 hz with rfl | hz
        · exact List.mem_filter.2 ⟨hy, decide_eq_true h.2⟩
        · rw [List.mem_singleton.1 hz]; exact List.mem_filter.2 ⟨hm, decide_eq_true rfl⟩
      exact XO hn hs
    simp only [List.length_cons, List.length_nil] at hsub
    omega
theorem QU {c : AChunk} {l : List ANode} {ah : List Int} (hu : c.av.Pairwise (fun x y => x < y)) : (bR c l ah).Pairwise (fun x y => x < y) := (hu.filter _).filter _
theorem Iu {c : AChunk} {l : List ANode} {ah : List Int} : ∀ y ∈ bR c l ah, bZ l y = true := fun y hy => by
  have := (List.mem_filter.1 hy).2; unfold Ef at this; simp only [Bool.and_eq_true] at this; exact this.1
def exR (l : List ANode) (ids : List Int) (aI : List bP) (y m : Int) : Bool := (CG l ids y && !CG l ids m) || ((CG l ids y == CG l ids m) && (decide (fJ aI m < fJ aI y) || (decide (fJ aI y = fJ aI m) && decide (m < y))))
theorem QV (aI : List bP) (y m : Int) : (decide (fJ aI m < fJ aI y) || (decide (fJ aI y = fJ aI m) && decide (m < y))) = decide (0 < (if false = true then (1 : Int) else if false = true then -1 else zx [dP (fJ aI y) (fJ aI m), dP y m])) := by
  rw [if_neg (by decide), if_neg (by decide)]
  unfold zx dP
  by_cases h1 : fJ aI y < fJ aI m <;> by_cases h2 : fJ aI m < fJ aI y <;> by_cases h3 : y < m <;> by_cases h4 : m < y <;> simp [h1, h2, h3, h4] <;> omega
theorem QW {l : List ANode} {ids : List Int} {aI : List bP} (hu : ids.Pairwise (fun x y => x < y)) (hf : ∀ y ∈ ids, bZ l y = true) {y m : Int} (hy : y ∈ ids) (hm : m ∈ ids) : exR l ids aI y m = decide (0 < sS (ji l ids) l aI y m) := by
  unfold exR sS
  rw [QT hu hf hy, QT hu hf hm]
  cases CG l ids y <;> cases CG l ids m
  · simp only [Bool.not_false, Bool.and_true, Bool.false_or, bne_self_eq_false, beq_self_eq_true, Bool.true_and, Bool.false_and]
    exact QV aI y m
  · simp
  · simp
  · simp only [Bool.not_true, Bool.and_false, Bool.false_or, bne_self_eq_false, beq_self_eq_true, Bool.true_and, Bool.false_and]
    exact QV aI y m
theorem TG {cf : Int → Int → Int} {l : List Int} (h : l ≠ []) : jL cf l ∈ l := by
  have key : ∀ (l : List Int) (x : Int), l.foldl (fun m y => if 0 < cf y m then y else m) x ∈ x :: l := by
    intro l
    induction l with
    | nil => intro x; exact List.mem_cons_self
    | cons y l ih =>
      intro x
      rw [List.foldl_cons]
      have h1 := ih (if 0 < cf y x then y else x)
      rcases List.mem_cons.1 h1 with h2 | h2
      · rw [h2]; split <;> simp
      · exact List.mem_cons_of_mem _ (List.mem_cons_of_mem _ h2)
  cases l with
  | nil => exact absurd rfl h
  | cons x l => exact key l x
theorem XP {l : List Int} {cf : Int → Int → Int} {k : Nat} (h1 : 1 ≤ k) (h2 : 1 ≤ l.length) : jL cf (l.take k) ∈ l := by
  refine List.mem_of_mem_take (TG ?_)
  intro e; have := congrArg List.length e; simp only [List.length_take, List.length_nil] at this; omega
theorem adt : aM Tryz.prog 158 := fun _ _ => by kernel_rfl
theorem XQ : aM Tryz.prog 159 := fun _ _ => by kernel_rfl
theorem Pv {S0 : Nat → Prop} (w : World) (c : AChunk) {kR : an3} {kS : Nat} (nC : Sl tInt S0 w kR kS c.av) {eY : an3} {eZ : Nat} {ak : List ANode} (dU : Sl tNode S0 w eY eZ ak) {cZ : an3} {dh : Nat} {ah : List Int} (cu : Sl tInt S0 w cZ dh ah) (hh : c.av.length ≤ 100000) :
    bY Tryz.prog 158 #[.agg #[.int .i64 c.ID, .int .i64 c.ay, .int .u32 c.Sum, .slice kR c.av.length kS], .slice eY ak.length eZ, .slice cZ ah.length dh] w fun v w' => ∃ (A0 : an3) (c0 : Nat), v = .slice A0 ((uM c ak ah).length) c0 ∧ Hp w S0 w' [aQ tInt 3 A0 c0 (uM c ak ah)] := by
 refine WP.enter Tryz.func158 Y Tryz.ntmps158 Y ?_
 have H0 := Hp.init w S0
 have mU := dU.aN
 have iy := cu.aN
 have hll := wP c ah
 have hq := fun k => nX (fun (id : Int) => bZ ak id && !decide ((bL ak id).dz = 0)) (gL c ah) k
 refine rg ?_
 refine bx Y Y H0 fun g1 w1 K1 => ?_
 refine aR Y <| dn <| rg <| ev (Ev.bX gQ Y Y (K1.x s0)) <| mv Y <| WL.call Y Y Y Ir (mD _ c (K1.a nC).any (K1.a cu).any (by omega)) Y ?_
 rintro _ w2 ⟨lD, lF, rfl, h2⟩
 have K2 := K1.f1 h2
 have DN := (K2.o s0).aN
 refine aR Y <| dn <| rg <| aR Y <| dn <| WP.seq <| rg <| aR Y <| dn <| WP.block ?_
 have H1 := K2.nil tInt 3
 have hq1 : (([] : List Int) : List Int) = (((gL c ah).take 0).filter (fun (id : Int) => bZ ak id && !decide ((bL ak id).dz = 0))) := by rfl
 refine WP.re (t := 8) Y (congrArg (fun z => Value.slice none (List.length z) 0) hq1) ?_
 have H2 := H1.nil tInt 3
 have H3 := (hq1 ▸ H2 : Hp w S0 w2 (aQ tInt 3 none 0 (((gL c ah).take 0).filter (fun (id : Int) => bZ ak id && !decide ((bL ak id).dz = 0))) :: [aQ tInt 3 none 0 [], aQ tInt 3 lD lF (gL c ah), dG g1 53 [.int .i64 c.ID, .int .i64 c.ay, .int .u32 c.Sum, .slice kR c.av.length kS]]))
 refine Lp ((H3.rm s1).rm s0) (fun l0 rk mJ lJ wJ => ∃ (k : Nat) (A8 : an3) (c8 : Nat), lJ = (8, .slice A8 ((((gL c ah).take k).filter (fun (id : Int) => bZ ak id && !decide ((bL ak id).dz = 0))).length) c8) :: (9, .int .i64 ((k : Nat) : Int)) :: l0 ∧ mJ = (gL c ah).length - k ∧ k ≤ (gL c ah).length ∧ Hp w S0 wJ (aQ tInt 3 A8 c8 (((gL c ah).take k).filter (fun (id : Int) => bZ ak id && !decide ((bL ak id).dz = 0))) :: rk)) ⟨0, none, 0, Y, Y, Nat.zero_le _, (H3.rm s1)⟩ Y ?_
 rintro _ _ w3 ⟨k, A8, c8, rfl, rfl, hk, K3⟩
 refine WP.seq <| rg <| mv Y <| mv Y <| ev (Ev.len Tryz.underlying51 Y) <| ev (Ev.lss Y Y) <| dn ?_
 refine WP.aG Y (fun hc18 => ?_) (fun hc18 => ?_)
 ·
  replace hc18 := of_decide_eq_true hc18
  refine WP.skip (aA.norm ?_)
  refine WP.seq <| WP.block <| rg <| mv Y <| mv Y <| mv Y ?_
  obtain ⟨x1, hx1⟩ := get_some (xs := gL c ah) (i := k) (by omega)
  refine ev (Ev.index (i := k) Tryz.underlying51 iC Y Y Y (aC hx1) ((K3.o s1).some_ hx1)) <| ev (Ev.aZ bf Y ((K3.o s1).aX (j := 0) hx1 Y)) ?_
  refine C0 K3 Y Y Y yX (nJ _ (K3.a dU).any x1) fun w4 K4 => ?_
  refine mv Y <| xt Y Y <| xt Y Y ?_
  refine al iM Y K4 fun g2 w5 K5 => ?_
  refine iW Y Y Y eO K5 s0 Y Y fun w6 K6 => ?_
  refine aR Y <| dn <| rg <| mv Y <| mv Y ?_
  refine WL.dR 4 35 ((bZ ak x1) && (!decide ((bL ak x1).dz = 0))) ?_ ?_
  ·
   cases Xj : bZ ak x1 with
   | true =>
    refine WL.bF Y (Ev.field (q := ⟨g2, 3, none⟩) nU Y Y) Y <| WL.bF Y (Ev.aj bf Y (K6.x s0) Y) Y <| WL.bF Y (Ev.neq Y Y) Y ?_
    refine ev (Ev.bq Y Y) ?_
    exact WL.bM Y
   | false =>
    refine WL.pass Y Y Y <| WL.pass Y Y Y <| WL.pass Y Y Y <| ev (Ev.bn Y Y) ?_
    exact WL.bM Y
  refine dn ?_
  refine WP.aG Y (fun kX => ?_) (fun kX => ?_)
  ·
   refine eP <| mv Y <| mv Y <| mv Y <| ev (Ev.index (i := k) Tryz.underlying51 iC Y Y Y (aC hx1) ((K6.o s2).some_ hx1)) <| ev (Ev.aZ bf Y ((K6.o s2).aX (j := 0) hx1 Y)) ?_
   refine ni (τ := tInt) (x := x1) Y (by intro _; apply jk) rfl K6 (fun _ _ => rfl) fun g3 w7 K7 => ?_
   refine ap (ys := ([x1] : List Int)) K7 s2 Y Y (K7.o s0) Tryz.underlying51 uF (by have := hq k; omega) (by simp) rfl fun jg jh w8 K8 => ?_
   refine aR Y <| eT ?_
   refine aA.aS (aA.norm ?_)
   refine eP <| mv Y <| ev (Ev.add Y Y (eX.mk (by omega) (by omega))) <| aR Y <| eT ?_
   have hq2 : (((((gL c ah).take k).filter (fun (id : Int) => bZ ak id && !decide ((bL ak id).dz = 0))) ++ ([x1] : List Int)) : List Int) = (((gL c ah).take (k + 1)).filter (fun (id : Int) => bZ ak id && !decide ((bL ak id).dz = 0))) := by rw [iE hx1]; first | rw [if_pos kX] | rw [if_neg (by rw [kX]; decide), List.append_nil]
   refine aA.re (t := 8) Y (congrArg (fun z => Value.slice jg (List.length z) jh) hq2) ?_
   rw [hq2] at K8
   exact aA.ag ⟨(k + 1), jg, jh, Y, Y, by omega, ((K8.rm s2).rm s1)⟩ rfl (by omega)
  refine WP.skip (aA.aS (aA.norm ?_))
  refine eP <| mv Y <| ev (Ev.add Y Y (eX.mk (by omega) (by omega))) <| aR Y <| eT ?_
  have hq3 : ((((gL c ah).take k).filter (fun (id : Int) => bZ ak id && !decide ((bL ak id).dz = 0))) : List Int) = (((gL c ah).take (k + 1)).filter (fun (id : Int) => bZ ak id && !decide ((bL ak id).dz = 0))) := by rw [iE hx1]; first | rw [if_pos kX] | rw [if_neg (by rw [kX]; decide), List.append_nil]
  refine aA.re (t := 8) Y (congrArg (fun z => Value.slice A8 (List.length z) c8) hq3) ?_
  rw [hq3] at K6
  exact aA.ag ⟨(k + 1), A8, c8, Y, Y, by omega, (K6.rm s0)⟩ rfl (by omega)
 replace hc18 := of_decide_eq_false hc18
 refine WP.exit (aA.aF (aA.aF (aA.bS (aA.norm ?_))))
 refine rg <| mv Y <| aR Y <| dn ?_
 refine WP.ret (aA.aD Y Y Y ?_)
 have hq4 : ((((gL c ah).take k).filter (fun (id : Int) => bZ ak id && !decide ((bL ak id).dz = 0))) : List Int) = (uM c ak ah) := by rw [List.take_of_length_le (by omega)]; unfold gL uM; rw [List.filter_filter]; rfl
 rw [hq4] at K3
 exact ⟨A8, c8, by rw [hq4] <;> rfl, ((K3.rm s2).rm s1)⟩
theorem zZ {S0 : Nat → Prop} (w : World) {eY : an3} {eZ : Nat} {ak : List ANode} (dU : Sl tNode S0 w eY eZ ak) {d9 : an3} {eu : Nat} {l : List Int} (dN : Sl tInt S0 w d9 eu l) (bO : Int) :
    bY Tryz.prog 159 #[.slice eY ak.length eZ, .slice d9 l.length eu, .int .i64 bO] w fun v w' => v = .bool (CG ak l bO) ∧ Hp w S0 w' [] := by
 refine WP.enter Tryz.func159 Y Tryz.ntmps159 Y ?_
 have H0 := Hp.init w S0
 have mU := dU.aN
 have iJ := dN.aN
 refine rg <| aR Y <| dn <| rg <| mv Y <| mv Y ?_
 refine C0 H0 Y Y Y yX (nJ _ (H0.a dU).any bO) fun w1 K1 => ?_
 refine mv Y <| xt Y Y <| xt Y Y ?_
 refine al iM Y K1 fun g1 w2 K2 => ?_
 refine iW Y Y Y eO K2 s0 Y Y fun w3 K3 => ?_
 refine aR Y <| dn <| WP.seq <| rg <| aR Y <| dn <| WP.block <| Lp K3 (fun l0 rk mJ lJ wJ => ∃ (k : Nat), lJ = (9, .int .i64 ((k : Nat) : Int)) :: l0 ∧ mJ = l.length - k ∧ k ≤ l.length ∧ (∀ y ∈ l.take k, ((bZ ak y && !decide (y = bO)) && decide ((bL ak y).dA = (bL ak bO).dA)) = false) ∧ Hp w S0 wJ rk) ⟨0, Y, Y, Nat.zero_le _, by simp, K3⟩ rfl ?_
 rintro _ _ w4 ⟨k, rfl, rfl, hk, hno, K4⟩
 refine WP.seq <| rg <| mv Y <| mv Y <| ev (Ev.len Tryz.underlying51 Y) <| ev (Ev.lss Y Y) <| dn ?_
 refine WP.aG Y (fun hc21 => ?_) (fun hc21 => ?_)
 ·
  replace hc21 := of_decide_eq_true hc21
  refine WP.skip (aA.norm ?_)
  refine WP.seq <| WP.block <| rg <| mv Y <| mv Y <| mv Y ?_
  obtain ⟨x1, hx1⟩ := get_some (xs := l) (i := k) (by omega)
  refine ev (Ev.index (i := k) Tryz.underlying51 iC Y Y Y (aC hx1) ((K4.a dN).some_ hx1)) <| ev (Ev.aZ bf Y ((K4.a dN).aX (j := 0) hx1 Y)) ?_
  refine C0 K4 Y Y Y yX (nJ _ (K4.a dU).any x1) fun w5 K5 => ?_
  refine mv Y <| xt Y Y <| xt Y Y ?_
  refine al iM Y K5 fun g2 w6 K6 => ?_
  refine iW Y Y Y eO K6 s0 Y Y fun w7 K7 => ?_
  refine aR Y <| dn <| rg <| mv Y <| mv Y ?_
  refine WL.dR 7 41 ((bZ ak x1) && (!decide (x1 = bO))) ?_ ?_
  ·
   cases adu : bZ ak x1 with
   | true =>
    refine WL.bF Y (Ev.move Y) Y <| WL.bF Y (Ev.move Y) Y <| WL.bF Y (Ev.index (i := k) Tryz.underlying51 iC Y Y Y (aC hx1) ((K7.a dN).some_ hx1)) Y ?_
    refine WL.bF Y (Ev.aZ bf Y ((K7.a dN).aX (j := 0) hx1 Y)) Y <| WL.bF Y (Ev.move Y) Y <| WL.bF Y (Ev.neq Y Y) Y <| ev (Ev.bq Y Y) ?_
    exact WL.bM Y
   | false =>
    refine WL.pass Y Y Y <| WL.pass Y Y Y <| WL.pass Y Y Y <| WL.pass Y Y Y <| WL.pass Y Y Y <| WL.pass Y Y Y <| ev (Ev.bn Y Y) ?_
    exact WL.bM Y
  refine mv Y ?_
  refine WL.dR 6 48 (((bZ ak x1) && (!decide (x1 = bO))) && (decide ((bL ak x1).dA = (bL ak bO).dA))) ?_ ?_
  ·
   cases XK : ((bZ ak x1) && (!decide (x1 = bO))) with
   | true =>
    have QS := XK
    try simp only [an4, an5, an6, an7, an8, an9, aoa, aob] at QS
    refine WL.bF Y (Ev.field (q := ⟨g2, 1, none⟩) l7 Y Y) Y <| WL.bF Y (Ev.aj bf Y (K7.x s0) Y) Y <| WL.bF Y (Ev.field (q := ⟨g1, 1, none⟩) l7 Y Y) Y ?_
    refine WL.bF Y (Ev.aj bf Y (K7.x s1) Y) Y <| WL.bF Y (Ev.eql Y Y) Y <| ev (Ev.bq Y Y) ?_
    exact WL.bM Y
   | false =>
    refine WL.pass Y Y Y <| WL.pass Y Y Y <| WL.pass Y Y Y <| WL.pass Y Y Y <| WL.pass Y Y Y <| ev (Ev.bn Y Y) ?_
    exact WL.bM Y
  refine dn ?_
  refine WP.aG Y (fun Jb => ?_) (fun Jb => ?_)
  ·
   refine rg <| aR Y <| dn ?_
   refine WP.ret (aA.bW (aA.aP (aA.aP (aA.bW (aA.aP (aA.aD Y Y Y ?_))))))
   have hq1 : (true : Bool) = (CG ak l bO) := by symm; unfold CG; rw [List.any_eq_true]; exact ⟨x1, bV hx1, Jb⟩
   exact ⟨by rw [← hq1] <;> rfl, K7.z⟩
  refine WP.skip (aA.aS (aA.norm ?_))
  refine eP <| mv Y <| ev (Ev.add Y Y (eX.mk (by omega) (by omega))) <| aR Y <| eT ?_
  exact aA.ag ⟨(k + 1), Y, Y, by omega, by exact gP (q := fun y => ((bZ ak y && !decide (y = bO)) && decide ((bL ak y).dA = (bL ak bO).dA)) = false) hno hx1 Jb, (K7.rm s0)⟩ rfl (by omega)
 replace hc21 := of_decide_eq_false hc21
 refine WP.exit (aA.aF (aA.aF (aA.bS (aA.norm ?_))))
 refine rg <| aR Y <| dn ?_
 refine WP.ret (aA.aD Y Y Y ?_)
 have hq2 : (false : Bool) = (CG ak l bO) := by symm; rw [List.take_of_length_le (by omega)] at hno; unfold CG; rw [List.any_eq_false]; intro y hy; rw [hno y hy]; decide
 exact ⟨by rw [← hq2] <;> rfl, (K4.rm s0)⟩
theorem J4 {S0 : Nat → Prop} (w : World) (c : AChunk) {kR : an3} {kS : Nat} (nC : Sl tInt S0 w kR kS c.av) {eY : an3} {eZ : Nat} {ak : List ANode} (dU : Sl tNode S0 w eY eZ ak) {cZ : an3} {dh : Nat} {ah : List Int} (cu : Sl tInt S0 w cZ dh ah) {fC : an3} {fD : Nat} {aI : List bP} (fH : Sl fO S0 w fC fD aI) (aJ : Int) (hh : c.av.length ≤ 100000) (hu : c.av.Pairwise (fun x y => x < y)) :
    bY Tryz.prog 99 #[.agg #[.int .i64 c.ID, .int .i64 c.ay, .int .u32 c.Sum, .slice kR c.av.length kS], .slice eY ak.length eZ, .slice cZ ah.length dh, .slice fC aI.length fD, .int .i64 aJ] w fun v w' => v = .tuple #[.int .i64 ((dX c ak ah aI aJ).1), .bool ((dX c ak ah aI aJ).2)] ∧ Hp w S0 w' [] := by
 refine WP.enter Tryz.func99 Y Tryz.ntmps99 Y ?_
 have H0 := Hp.init w S0
 have mU := dU.aN
 have iy := cu.aN
 have mP := fH.aN
 have hll := wP c ah
 have hgl := G6 c ak ah
 refine rg ?_
 refine bx Y Y H0 fun g1 w1 K1 => ?_
 refine aR Y <| aR Y <| dn <| rg <| ev (Ev.bX gQ Y Y (K1.x s0)) <| mv Y <| mv Y <| WL.call Y Y Y XG (yY _ c (K1.a nC).any (K1.a dU).any (K1.a cu).any (by omega)) Y ?_
 rintro _ w2 ⟨lD, lF, rfl, h2⟩
 have K2 := K1.f1 h2
 have DN := (K2.o s0).aN
 refine aR Y <| dn <| WP.seq <| rg <| mv Y <| ev (Ev.lss Y Y) <| mv Y ?_
 refine WL.dR 5 31 ((decide (aJ < 1)) || (decide ((((bR c ak ah).length : Nat) : Int) < aJ))) ?_ ?_
 ·
  cases MB : decide (aJ < 1) with
  | true =>
   refine WL.pass Y Y Y <| WL.pass Y Y Y <| WL.pass Y Y Y <| WL.pass Y Y Y <| ev (Ev.bq Y Y) ?_
   exact WL.bM Y
  | false =>
   have Ht := of_decide_eq_false MB
   refine WL.bF Y (Ev.move Y) Y <| WL.bF Y (Ev.len Tryz.underlying51 Y) Y <| WL.bF Y (Ev.move Y) Y <| WL.bF Y (Ev.lss Y Y) Y <| ev (Ev.bn Y Y) ?_
   exact WL.bM Y
 refine dn ?_
 refine WP.aG Y (fun hc31 => ?_) (fun hc31 => ?_)
 ·
  try simp only [Bool.or_eq_true, Bool.or_eq_false_iff, decide_eq_true_eq, decide_eq_false_iff_not] at hc31
  refine rg <| aR Y <| aR Y <| dn ?_
  refine WP.ret (aA.aP (aA.aD Y Y Y ?_))
  have hq1 : (0 : Int) = ((dX c ak ah aI aJ).1) := by rw [C8 (by omega)]
  have hq2 : (false : Bool) = ((dX c ak ah aI aJ).2) := by rw [C8 (by omega)]
  exact ⟨by rw [← hq1, ← hq2] <;> rfl, K2.z⟩
 try simp only [Bool.or_eq_true, Bool.or_eq_false_iff, decide_eq_true_eq, decide_eq_false_iff_not] at hc31
 refine WP.skip (aA.norm ?_)
 refine rg <| ev (Ev.bX gQ Y Y (K2.x s1)) <| mv Y <| mv Y <| WL.call Y Y Y adt (Pv _ c (K2.a nC).any (K2.a dU).any (K2.a cu).any (by omega)) Y ?_
 rintro _ w3 ⟨qW, qX, rfl, h3⟩
 have K3 := K2.f1 h3
 have Qt := (K3.o s0).aN
 refine aR Y <| dn <| WP.seq <| rg <| mv Y <| ev (Ev.len Tryz.underlying51 Y) <| ev (Ev.gtr Y Y) <| dn ?_
 refine WP.aG Y (fun hc38 => ?_) (fun hc38 => ?_)
 ·
  replace hc38 := of_decide_eq_true hc38
  refine rg <| mv Y ?_
  obtain ⟨x1, hx1⟩ := get_some (xs := uM c ak ah) (i := 0) (by omega)
  refine ev (Ev.index (i := 0) Tryz.underlying51 iC Y Y Y (aC hx1) ((K3.o s0).some_ hx1)) <| ev (Ev.aZ bf Y ((K3.o s0).aX (j := 0) hx1 Y)) ?_
  refine aR Y <| aR Y <| dn ?_
  refine WP.ret (aA.aP (aA.aD Y Y Y ?_))
  have hq3 : (x1 : Int) = ((dX c ak ah aI aJ).1) := by rw [zF (by omega) hx1]
  have hq4 : (true : Bool) = ((dX c ak ah aI aJ).2) := by rw [zF (by omega) hx1]
  exact ⟨by rw [← hq3, ← hq4] <;> rfl, K3.z⟩
 replace hc38 := of_decide_eq_false hc38
 refine WP.skip (aA.norm ?_)
 refine WP.seq <| rg <| mv Y <| ev (Ev.len Tryz.underlying51 Y) <| mv Y <| ev (Ev.leq Y Y) <| dn ?_
 refine WP.aG Y (fun qg => ?_) (fun qg => ?_)
 ·
  replace qg := of_decide_eq_true qg
  refine rg <| aR Y <| aR Y <| dn ?_
  refine WP.ret (aA.aP (aA.aD Y Y Y ?_))
  have kP : (0 : Int) = ((dX c ak ah aI aJ).1) := by rw [zG (by omega) (by omega) (by omega)]
  have ny : (false : Bool) = ((dX c ak ah aI aJ).2) := by rw [zG (by omega) (by omega) (by omega)]
  exact ⟨by rw [← kP, ← ny] <;> rfl, K3.z⟩
 replace qg := of_decide_eq_false qg
 refine WP.skip (aA.norm ?_)
 refine rg <| mv Y ?_
 obtain ⟨x2, hx2⟩ := get_some (xs := bR c ak ah) (i := 0) (by omega)
 refine ev (Ev.index (i := 0) Tryz.underlying51 iC Y Y Y (aC hx2) ((K3.o s1).some_ hx2)) <| ev (Ev.aZ bf Y ((K3.o s1).aX (j := 0) hx2 Y)) ?_
 refine aR Y <| dn <| WP.seq <| rg <| aR Y <| dn <| WP.block ?_
 have kT : (x2 : Int) = (jL (sS (ji ak (bR c ak ah)) ak aI) ((bR c ak ah).take 1)) := by exact (LH hx2).symm
 refine WP.re (t := 14) Y (congrArg (Value.int .i64) kT) <| WP.lp (fun mJ lJ wJ => ∃ (j : Nat), lJ = [(1, .slice eY ak.length eZ), (3, .slice fC aI.length fD), (12, .slice lD ((bR c ak ah).length) lF), (14, .int .i64 (jL (sS (ji ak (bR c ak ah)) ak aI) ((bR c ak ah).take j))), (15, .int .i64 ((j : Nat) : Int))] ∧ mJ = (bR c ak ah).length - j ∧ (1 ≤ j ∧ j ≤ (bR c ak ah).length) ∧ Hp w S0 wJ [aQ tInt 3 qW qX (uM c ak ah), aQ tInt 3 lD lF (bR c ak ah), dG g1 53 [.int .i64 c.ID, .int .i64 c.ay, .int .u32 c.Sum, .slice kR c.av.length kS]]) ⟨1, Y, Y, by omega, K3⟩ rfl ?_
 rintro _ _ w4 ⟨j, rfl, rfl, hj, K4⟩
 refine WP.seq <| rg <| mv Y <| mv Y <| ev (Ev.len Tryz.underlying51 Y) <| ev (Ev.lss Y Y) <| dn ?_
 refine WP.aG Y (fun D9 => ?_) (fun D9 => ?_)
 ·
  replace D9 := of_decide_eq_true D9
  refine WP.skip (aA.norm ?_)
  refine WP.seq <| WP.block <| rg <| mv Y <| mv Y <| mv Y <| mv Y ?_
  obtain ⟨x3, hx3⟩ := get_some (xs := bR c ak ah) (i := j) (by omega)
  refine ev (Ev.index (i := j) Tryz.underlying51 iC Y Y Y (aC hx3) ((K4.o s1).some_ hx3)) <| ev (Ev.aZ bf Y ((K4.o s1).aX (j := 0) hx3 Y)) ?_
  refine C0 K4 Y Y Y XQ (zZ _ (K4.a dU).any (K4.o s1) x3) fun w5 K5 => ?_
  refine aR Y <| dn <| rg <| mv Y <| mv Y <| mv Y ?_
  refine C0 K5 Y Y Y XQ (zZ _ (K5.a dU).any (K5.o s1) (jL (sS (ji ak (bR c ak ah)) ak aI) ((bR c ak ah).take j))) fun w6 K6 => ?_
  refine aR Y <| dn <| rg <| mv Y <| mv Y <| mv Y <| ev (Ev.index (i := j) Tryz.underlying51 iC Y Y Y (aC hx3) ((K6.o s1).some_ hx3)) <| ev (Ev.aZ bf Y ((K6.o s1).aX (j := 0) hx3 Y)) ?_
  refine C0 K6 Y Y Y BJ (oU _ (K6.a fH).any x3) fun w7 K7 => ?_
  refine aR Y <| dn <| rg <| mv Y <| mv Y ?_
  refine C0 K7 Y Y Y BJ (oU _ (K7.a fH).any (jL (sS (ji ak (bR c ak ah)) ak aI) ((bR c ak ah).take j))) fun w8 K8 => ?_
  refine aR Y <| dn <| rg <| mv Y <| mv Y ?_
  refine WL.dR 3 79 ((CG ak (bR c ak ah) x3) && (!(CG ak (bR c ak ah) (jL (sS (ji ak (bR c ak ah)) ak aI) ((bR c ak ah).take j))))) ?_ ?_
  ·
   cases Xd : CG ak (bR c ak ah) x3 with
   | true =>
    refine WL.bF Y (Ev.move Y) Y <| WL.bF Y (Ev.not Y) Y <| ev (Ev.bq Y Y) ?_
    exact WL.bM Y
   | false =>
    refine WL.pass Y Y Y <| WL.pass Y Y Y <| ev (Ev.bn Y Y) ?_
    exact WL.bM Y
  refine mv Y ?_
  refine WL.dR 22 102 (((CG ak (bR c ak ah) x3) && (!(CG ak (bR c ak ah) (jL (sS (ji ak (bR c ak ah)) ak aI) ((bR c ak ah).take j))))) || (((CG ak (bR c ak ah) x3) == (CG ak (bR c ak ah) (jL (sS (ji ak (bR c ak ah)) ak aI) ((bR c ak ah).take j)))) && ((decide (fJ aI (jL (sS (ji ak (bR c ak ah)) ak aI) ((bR c ak ah).take j)) < fJ aI x3)) || ((decide (fJ aI x3 = fJ aI (jL (sS (ji ak (bR c ak ah)) ak aI) ((bR c ak ah).take j)))) && (decide ((jL (sS (ji ak (bR c ak ah)) ak aI) ((bR c ak ah).take j)) < x3)))))) ?_ ?_
  ·
   cases agn : ((CG ak (bR c ak ah) x3) && (!(CG ak (bR c ak ah) (jL (sS (ji ak (bR c ak ah)) ak aI) ((bR c ak ah).take j))))) with
   | true =>
    refine WL.pass Y Y Y <| WL.pass Y Y Y <| WL.pass Y Y Y <| WL.pass Y Y Y <| WL.pass Y Y Y <| WL.pass Y Y Y <| WL.pass Y Y Y <| WL.pass Y Y Y <| WL.pass Y Y Y <| WL.pass Y Y Y <| WL.pass Y Y Y <| WL.pass Y Y Y <| WL.pass Y Y Y <| WL.pass Y Y Y ?_
    refine WL.pass Y Y Y <| WL.pass Y Y Y <| WL.pass Y Y Y <| WL.pass Y Y Y <| WL.pass Y Y Y <| WL.pass Y Y Y <| WL.pass Y Y Y <| ev (Ev.bq Y Y) ?_
    exact WL.bM Y
   | false =>
    have agt := agn
    try simp only [an4, an5, an6, an7, an8, an9, aoa, aob] at agt
    refine WL.bF Y (Ev.move Y) Y <| WL.bF Y (Ev.move Y) Y <| WL.bF Y (Ev.eqb Tryz.underlying4 Y Y) Y <| WL.bF Y (Ev.move Y) Y ?_
    refine WL.dR 17 101 (((CG ak (bR c ak ah) x3) == (CG ak (bR c ak ah) (jL (sS (ji ak (bR c ak ah)) ak aI) ((bR c ak ah).take j)))) && ((decide (fJ aI (jL (sS (ji ak (bR c ak ah)) ak aI) ((bR c ak ah).take j)) < fJ aI x3)) || ((decide (fJ aI x3 = fJ aI (jL (sS (ji ak (bR c ak ah)) ak aI) ((bR c ak ah).take j)))) && (decide ((jL (sS (ji ak (bR c ak ah)) ak aI) ((bR c ak ah).take j)) < x3))))) ?_ ?_
    ·
     cases afP : ((CG ak (bR c ak ah) x3) == (CG ak (bR c ak ah) (jL (sS (ji ak (bR c ak ah)) ak aI) ((bR c ak ah).take j)))) with
     | true =>
      refine WL.bF Y (Ev.move Y) Y <| WL.bF Y (Ev.move Y) Y <| WL.bF Y (Ev.gtr Y Y) Y <| WL.bF Y (Ev.move Y) Y ?_
      refine WL.dR 12 100 ((decide (fJ aI (jL (sS (ji ak (bR c ak ah)) ak aI) ((bR c ak ah).take j)) < fJ aI x3)) || ((decide (fJ aI x3 = fJ aI (jL (sS (ji ak (bR c ak ah)) ak aI) ((bR c ak ah).take j)))) && (decide ((jL (sS (ji ak (bR c ak ah)) ak aI) ((bR c ak ah).take j)) < x3)))) ?_ ?_
      ·
       cases ajX : decide (fJ aI (jL (sS (ji ak (bR c ak ah)) ak aI) ((bR c ak ah).take j)) < fJ aI x3) with
       | true =>
        refine WL.pass Y Y Y <| WL.pass Y Y Y <| WL.pass Y Y Y <| WL.pass Y Y Y <| WL.pass Y Y Y <| WL.pass Y Y Y <| WL.pass Y Y Y <| WL.pass Y Y Y <| WL.pass Y Y Y <| WL.pass Y Y Y <| WL.pass Y Y Y <| WL.bF Y (Ev.bq Y Y) Y ?_
        exact WL.bM Y
       | false =>
        have alu := of_decide_eq_false ajX
        refine WL.bF Y (Ev.move Y) Y <| WL.bF Y (Ev.move Y) Y <| WL.bF Y (Ev.eql Y Y) Y <| WL.bF Y (Ev.move Y) Y ?_
        refine WL.dR 7 99 ((decide (fJ aI x3 = fJ aI (jL (sS (ji ak (bR c ak ah)) ak aI) ((bR c ak ah).take j)))) && (decide ((jL (sS (ji ak (bR c ak ah)) ak aI) ((bR c ak ah).take j)) < x3))) ?_ ?_
        ·
         cases ajY : decide (fJ aI x3 = fJ aI (jL (sS (ji ak (bR c ak ah)) ak aI) ((bR c ak ah).take j))) with
         | true =>
          have alv := of_decide_eq_true ajY
          refine WL.bF Y (Ev.move Y) Y <| WL.bF Y (Ev.move Y) Y <| WL.bF Y (Ev.index (i := j) Tryz.underlying51 iC Y Y Y (aC hx3) ((K8.o s1).some_ hx3)) Y ?_
          refine WL.bF Y (Ev.aZ bf Y ((K8.o s1).aX (j := 0) hx3 Y)) Y <| WL.bF Y (Ev.move Y) Y <| WL.bF Y (Ev.gtr Y Y) Y <| WL.bF Y (Ev.bq Y Y) Y ?_
          exact WL.bM Y
         | false =>
          refine WL.pass Y Y Y <| WL.pass Y Y Y <| WL.pass Y Y Y <| WL.pass Y Y Y <| WL.pass Y Y Y <| WL.pass Y Y Y <| WL.bF Y (Ev.bn Y Y) Y ?_
          exact WL.bM Y
        refine WL.bF Y (Ev.bn Y Y) Y ?_
        exact WL.bM Y
      refine WL.bF Y (Ev.bq Y Y) Y ?_
      exact WL.bM Y
     | false =>
      refine WL.pass Y Y Y <| WL.pass Y Y Y <| WL.pass Y Y Y <| WL.pass Y Y Y <| WL.pass Y Y Y <| WL.pass Y Y Y <| WL.pass Y Y Y <| WL.pass Y Y Y <| WL.pass Y Y Y <| WL.pass Y Y Y <| WL.pass Y Y Y <| WL.pass Y Y Y <| WL.pass Y Y Y <| WL.pass Y Y Y ?_
      refine WL.pass Y Y Y <| WL.pass Y Y Y <| WL.bF Y (Ev.bn Y Y) Y ?_
      exact WL.bM Y
    refine ev (Ev.bn Y Y) ?_
    exact WL.bM Y
  refine dn ?_
  refine WP.aG Y (fun hc102 => ?_) (fun hc102 => ?_)
  ·
   refine eP <| mv Y <| mv Y <| ev (Ev.index (i := j) Tryz.underlying51 iC Y Y Y (aC hx3) ((K8.o s1).some_ hx3)) <| ev (Ev.aZ bf Y ((K8.o s1).aX (j := 0) hx3 Y)) <| aR Y <| eT <| aA.aS (aA.norm ?_)
   refine eP <| mv Y <| ev (Ev.add Y Y (eX.mk (by omega) (by omega))) <| aR Y <| eT ?_
   have hq8 : (x3 : Int) = (jL (sS (ji ak (bR c ak ah)) ak aI) ((bR c ak ah).take (j + 1))) := by rw [xM hj.1 hx3]; have he := QW (aI := aI) (QU (l := ak) (ah := ah) hu) Iu (bV hx3) (XP (l := (bR c ak ah)) (cf := (sS (ji ak (bR c ak ah)) ak aI)) hj.1 (by omega)); have hc' := he.symm.trans hc102; first | rw [if_pos (of_decide_eq_true hc')] | rw [if_neg (of_decide_eq_false hc')]
   refine aA.re (t := 14) Y (congrArg (Value.int .i64) hq8) ?_
   exact aA.ag ⟨(j + 1), Y, Y, by omega, K8⟩ rfl (by omega)
  refine WP.skip (aA.aS (aA.norm ?_))
  refine eP <| mv Y <| ev (Ev.add Y Y (eX.mk (by omega) (by omega))) <| aR Y <| eT ?_
  have uj : ((jL (sS (ji ak (bR c ak ah)) ak aI) ((bR c ak ah).take j)) : Int) = (jL (sS (ji ak (bR c ak ah)) ak aI) ((bR c ak ah).take (j + 1))) := by rw [xM hj.1 hx3]; have he := QW (aI := aI) (QU (l := ak) (ah := ah) hu) Iu (bV hx3) (XP (l := (bR c ak ah)) (cf := (sS (ji ak (bR c ak ah)) ak aI)) hj.1 (by omega)); have hc' := he.symm.trans hc102; first | rw [if_pos (of_decide_eq_true hc')] | rw [if_neg (of_decide_eq_false hc')]
  refine aA.re (t := 14) Y (congrArg (Value.int .i64) uj) ?_
  exact aA.ag ⟨(j + 1), Y, Y, by omega, K8⟩ rfl (by omega)
 replace D9 := of_decide_eq_false D9
 refine WP.exit (aA.aF (aA.aF (aA.bS (aA.norm ?_))))
 refine rg <| mv Y <| aR Y <| aR Y <| dn ?_
 refine WP.ret (aA.aD Y Y Y ?_)
 have jK : ((jL (sS (ji ak (bR c ak ah)) ak aI) ((bR c ak ah).take j)) : Int) = ((dX c ak ah aI aJ).1) := by rw [C9 (by omega) (by omega) (by omega), List.take_of_length_le (show (bR c ak ah).length ≤ j by omega)]
 have hq11 : (true : Bool) = ((dX c ak ah aI aJ).2) := by rw [C9 (by omega) (by omega) (by omega)]
 exact ⟨by rw [jK, ← hq11] <;> rfl, K4.z⟩
theorem Gl {S0 : Nat → Prop} (w : World) (c : AChunk) {kR : an3} {kS : Nat} (nC : Sl tInt S0 w kR kS c.av) (bO : Int) (hh : c.av.length ≤ 100000) :
    bY Tryz.prog 64 #[.agg #[.int .i64 c.ID, .int .i64 c.ay, .int .u32 c.Sum, .slice kR c.av.length kS], .int .i64 bO] w fun v w' => ∃ (B0_0 : an3) (qG : Nat), v = .agg #[.int .i64 (({ c with av := c.av.filter fun (id : Int) => !decide (id = bO) } : AChunk).ID), .int .i64 (({ c with av := c.av.filter fun (id : Int) => !decide (id = bO) } : AChunk).ay), .int .u32 (({ c with av := c.av.filter fun (id : Int) => !decide (id = bO) } : AChunk).Sum), .slice B0_0 ((({ c with av := c.av.filter fun (id : Int) => !decide (id = bO) } : AChunk).av).length) qG] ∧ Hp w S0 w' [fM tInt B0_0 qG (({ c with av := c.av.filter fun (id : Int) => !decide (id = bO) } : AChunk).av)] := by
 refine WP.enter Tryz.func64 Y Tryz.ntmps64 Y ?_
 have H0 := Hp.init w S0
 have hq := fun k => nX (fun (id : Int) => !decide (id = bO)) c.av k
 refine rg ?_
 refine bx Y Y H0 fun g1 w1 K1 => ?_
 refine al iI Y K1 fun g2 w2 K2 => ?_
 refine dn <| rg <| aR Y <| dn <| WP.seq <| rg <| aR Y <| dn <| WP.block ?_
 have H1 := K2.nil tInt 3
 have hq1 : (([] : List Int) : List Int) = ((c.av.take 0).filter (fun (id : Int) => !decide (id = bO))) := by rfl
 refine WP.re (t := 5) Y (congrArg (fun z => Value.slice none (List.length z) 0) hq1) ?_
 have H2 := H1.nil tInt 3
 have H3 := (hq1 ▸ H2 : Hp w S0 w2 (aQ tInt 3 none 0 ((c.av.take 0).filter (fun (id : Int) => !decide (id = bO))) :: [aQ tInt 3 none 0 [], dG g2 53 [.int .i64 0, .int .i64 0, .int .u32 0, .slice none 0 0], dG g1 53 [.int .i64 c.ID, .int .i64 c.ay, .int .u32 c.Sum, .slice kR c.av.length kS]]))
 refine Lp ((H3.rm s1).rm s0) (fun l0 rk mJ lJ wJ => ∃ (k : Nat) (A5 : an3) (c5 : Nat), lJ = (5, .slice A5 (((c.av.take k).filter (fun (id : Int) => !decide (id = bO))).length) c5) :: (6, .int .i64 ((k : Nat) : Int)) :: l0 ∧ mJ = c.av.length - k ∧ k ≤ c.av.length ∧ Hp w S0 wJ (aQ tInt 3 A5 c5 ((c.av.take k).filter (fun (id : Int) => !decide (id = bO))) :: rk)) ⟨0, none, 0, Y, Y, Nat.zero_le _, (H3.rm s1)⟩ Y ?_
 rintro _ _ w3 ⟨k, A5, c5, rfl, rfl, hk, K3⟩
 refine WP.seq <| rg <| mv Y <| ev (Ev.field (q := ⟨g1, 3, none⟩) fT Y Y) <| ev (Ev.aj gK Y (K3.x s2) Y) <| ev (Ev.len Tryz.underlying51 Y) <| ev (Ev.lss Y Y) <| dn ?_
 refine WP.aG Y (fun fK => ?_) (fun fK => ?_)
 ·
  replace fK := of_decide_eq_true fK
  refine WP.skip (aA.norm ?_)
  refine WP.seq <| WP.block <| rg <| ev (Ev.field (q := ⟨g1, 3, none⟩) fT Y Y) <| ev (Ev.aj gK Y (K3.x s2) Y) <| mv Y ?_
  obtain ⟨x1, hx1⟩ := get_some (xs := c.av) (i := k) (by omega)
  refine ev (Ev.index (i := k) Tryz.underlying51 iC Y Y Y (aC hx1) ((K3.a nC).some_ hx1)) <| ev (Ev.aZ bf Y ((K3.a nC).aX (j := 0) hx1 Y)) ?_
  refine mv Y <| ev (Ev.neq Y Y) <| dn ?_
  refine WP.aG Y (fun iX => ?_) (fun iX => ?_)
  ·
   replace iX := gJ iX
   refine eP <| mv Y <| ev (Ev.field (q := ⟨g1, 3, none⟩) fT Y Y) <| ev (Ev.aj gK Y (K3.x s2) Y) <| mv Y <| ev (Ev.index (i := k) Tryz.underlying51 iC Y Y Y (aC hx1) ((K3.a nC).some_ hx1)) <| ev (Ev.aZ bf Y ((K3.a nC).aX (j := 0) hx1 Y)) ?_
   refine ni (τ := tInt) (x := x1) Y (by intro _; apply jk) rfl K3 (fun _ _ => rfl) fun g3 w4 K4 => ?_
   refine ap (ys := ([x1] : List Int)) K4 s1 Y Y (K4.o s0) Tryz.underlying51 uF (by have := hq k; omega) (by simp) rfl fun jg jh w5 K5 => ?_
   refine aR Y <| eT ?_
   refine aA.aS (aA.norm ?_)
   refine eP <| mv Y <| ev (Ev.add Y Y (eX.mk (by omega) (by omega))) <| aR Y <| eT ?_
   have hq2 : ((((c.av.take k).filter (fun (id : Int) => !decide (id = bO))) ++ ([x1] : List Int)) : List Int) = ((c.av.take (k + 1)).filter (fun (id : Int) => !decide (id = bO))) := by rw [iE hx1]; simp [iX]
   refine aA.re (t := 5) Y (congrArg (fun z => Value.slice jg (List.length z) jh) hq2) ?_
   rw [hq2] at K5
   exact aA.ag ⟨(k + 1), jg, jh, Y, Y, by omega, (K5.rm s1)⟩ rfl (by omega)
  replace iX := gD iX
  refine WP.skip (aA.aS (aA.norm ?_))
  refine eP <| mv Y <| ev (Ev.add Y Y (eX.mk (by omega) (by omega))) <| aR Y <| eT ?_
  have hq3 : (((c.av.take k).filter (fun (id : Int) => !decide (id = bO))) : List Int) = ((c.av.take (k + 1)).filter (fun (id : Int) => !decide (id = bO))) := by rw [iE hx1]; simp [iX]
  refine aA.re (t := 5) Y (congrArg (fun z => Value.slice A5 (List.length z) c5) hq3) ?_
  rw [hq3] at K3
  exact aA.ag ⟨(k + 1), A5, c5, Y, Y, by omega, K3⟩ rfl (by omega)
 replace fK := of_decide_eq_false fK
 refine WP.exit (aA.aF (aA.aF (aA.bS (aA.norm ?_))))
 refine rg <| mv Y <| ev (Ev.field (q := ⟨g1, 3, none⟩) fT Y Y) ?_
 refine BK Y Y Y zm K3 s2 Y fun w6 K6 => ?_
 refine dn <| rg <| ev (Ev.bX gQ Y Y (K6.x s0)) ?_
 refine iW Y Y Y gu K6 s2 Y Y fun w7 K7 => ?_
 refine dn ?_
 refine WP.ret (aA.oG Y ⟨_, _, Y, ⟨_, Y, eH (cs := [.int .i64 c.ID, .int .i64 c.ay, .int .u32 c.Sum, .slice A5 (((c.av.take k).filter (fun (id : Int) => !decide (id = bO))).length) c5]) gQ Y (K7.x s0)⟩, Y⟩ ?_)
 have hq4 : ((⟨c.ID, c.ay, c.Sum, ((c.av.take k).filter (fun (id : Int) => !decide (id = bO)))⟩ : AChunk) : AChunk) = ({ c with av := c.av.filter fun (id : Int) => !decide (id = bO) } : AChunk) := by rw [List.take_of_length_le (by omega)]
 have kP : (c.ID : Int) = ({ c with av := c.av.filter fun (id : Int) => !decide (id = bO) } : AChunk).ID := by rw [← hq4]
 have ny : (c.ay : Int) = ({ c with av := c.av.filter fun (id : Int) => !decide (id = bO) } : AChunk).ay := by rw [← hq4]
 have kT : (c.Sum : Int) = ({ c with av := c.av.filter fun (id : Int) => !decide (id = bO) } : AChunk).Sum := by rw [← hq4]
 have H4 := K7.fz s2
 have hq8 : (((c.av.take k).filter (fun (id : Int) => !decide (id = bO))) : List Int) = (({ c with av := c.av.filter fun (id : Int) => !decide (id = bO) } : AChunk).av) := by rw [← hq4]
 exact ⟨A5, c5, by first | (rw [kP, ny, kT, hq8] <;> rfl) | (rw [hq8, kP, ny, kT] <;> rfl), by rw [← hq8]; exact ((H4.rm s2).rm s1)⟩
end Go.Proofs.YtjcklpooaaaglaaGreat
set_option maxRecDepth 4000
set_option linter.all false
namespace Go.Proofs.YtjcklpooaaaglaaGreat
open Go.RowKit
def yZ (dB : Int) : Int := if dB < 0 then 0 else if 1099511627776 < dB then 1099511627776 else dB
def y7 (l : List ABeat) (bO now dB : Int) : Bool := match (dZ l).find? (fun (y : ABeat) => decide (y.Node = bO)) with | some b => decide (now ≤ b.At + yZ dB) | none => false
def qU (l : List ABeat) (now dB : Int) (b : ABeat) : Bool := y7 l b.Node now dB
theorem QX {α : Type} {p : α → Bool} : ∀ {xs : List α} {k : Nat} {x : α}, (∀ y ∈ xs.take k, p y = false) → xs[k]? = some x → p x = true → xs.find? p = some x
  | [], k, x, _, h, _ => by simp at h
  | y :: xs, 0, x, _, h, hp => by simp at h; subst h; simp [List.find?, hp]
  | y :: xs, k + 1, x, h0, h, hp => by
    have h1 := h0 y (by simp)
    have h2 := QX (p := p) (xs := xs) (k := k) (x := x) (fun z hz => h0 z (by simp [hz])) (by simpa using h) hp
    simp [List.find?, h1, h2]
theorem Zi {α : Type} {p : α → Bool} {xs : List α} (h : ∀ y ∈ xs, p y = false) : xs.find? p = none := by
  rw [List.find?_eq_none]; intro x hx; simp [h x hx]
def yE (l : List ABeat) (k : Nat) (n : Int) : Bool := decide (0 < k) && decide (n ≤ tT l k)
theorem Zj {l : List ABeat} {k : Nat} {x : ABeat} {n : Int} (hk : 0 < k) (hx : l[k - 1]? = some x) : yE l k n = decide (n ≤ x.Node) := by
  have := Ep hx
  rw [show k - 1 + 1 = k from by omega] at this
  unfold yE; rw [this]; simp [hk]
theorem adv {l : List ABeat} {k : Nat} {x : ABeat} (h : j6 0 (l.take k) = true) (hx : l[k]? = some x) (hb : vS x = false ∨ yE l k x.Node = true) : dZ l = [] := by
  refine G8 h hx ?_
  rcases hb with hb | hb
  · rw [hb]; rfl
  · unfold yE at hb; simp only [Bool.and_eq_true, decide_eq_true_eq] at hb
    simp; intro _; omega
theorem agu {l : List ABeat} {k : Nat} {x : ABeat} (h : j6 0 (l.take k) = true) (hx : l[k]? = some x) (hb : vS x = true) (hp : yE l k x.Node = false) : j6 0 (l.take (k + 1)) = true := by
  rw [yR h hx, hb]
  rcases Nat.eq_zero_or_pos k with hk | hk
  · subst hk
    have hm : 1 ≤ x.Node := by simp only [vS, Bool.and_eq_true, decide_eq_true_eq] at hb; exact hb.1.1.1
    have h0 : tT l 0 = 0 := by simp [tT]
    rw [h0]; simp; omega
  · unfold yE at hp; simp only [Bool.and_eq_false_imp, decide_eq_true_eq, decide_eq_false_iff_not] at hp
    simp; have := hp hk; omega
theorem adw : aM Tryz.prog 147 := fun _ _ => by kernel_rfl
theorem aaF : aM Tryz.prog 90 := fun _ _ => by kernel_rfl
theorem adx : aM Tryz.prog 148 := fun _ _ => by kernel_rfl
theorem agv : aM Tryz.prog 91 := fun _ _ => by kernel_rfl
theorem Zk {S0 : Nat → Prop} (w : World) (bO : Int) (now : Int) :
    bY Tryz.prog 147 #[.int .i64 bO, .int .i64 now] w fun v w' => v = .bool (vS ⟨bO, now⟩) ∧ Hp w S0 w' [] := by
 refine WP.enter Tryz.func147 Y Tryz.ntmps147 Y ?_
 have H0 := Hp.init w S0
 refine rg <| aR Y <| dn <| rg <| mv Y <| ev (Ev.geq Y Y) <| mv Y ?_
 refine WL.dR 3 10 ((decide (1 ≤ bO)) && (decide (bO ≤ 16))) ?_ ?_
 ·
  cases hb7 : decide (1 ≤ bO) with
  | true =>
   have abw := of_decide_eq_true hb7
   refine WL.bF Y (Ev.move Y) Y <| WL.bF Y (Ev.leq Y Y) Y <| ev (Ev.bq Y Y) ?_
   exact WL.bM Y
  | false =>
   refine WL.pass Y Y Y <| WL.pass Y Y Y <| ev (Ev.bn Y Y) ?_
   exact WL.bM Y
 refine mv Y ?_
 refine WL.dR 3 14 (((decide (1 ≤ bO)) && (decide (bO ≤ 16))) && (decide (0 ≤ now))) ?_ ?_
 ·
  cases AX : ((decide (1 ≤ bO)) && (decide (bO ≤ 16))) with
  | true =>
   have tJ := AX
   try simp only [Bool.and_eq_true, Bool.and_eq_false_imp, decide_eq_true_eq, decide_eq_false_iff_not] at tJ
   refine WL.bF Y (Ev.move Y) Y <| WL.bF Y (Ev.geq Y Y) Y <| ev (Ev.bq Y Y) ?_
   exact WL.bM Y
  | false =>
   refine WL.pass Y Y Y <| WL.pass Y Y Y <| ev (Ev.bn Y Y) ?_
   exact WL.bM Y
 refine mv Y ?_
 refine WL.dR 3 18 ((((decide (1 ≤ bO)) && (decide (bO ≤ 16))) && (decide (0 ≤ now))) && (decide (now ≤ 1099511627776))) ?_ ?_
 ·
  cases IV : (((decide (1 ≤ bO)) && (decide (bO ≤ 16))) && (decide (0 ≤ now))) with
  | true =>
   have UE := IV
   try simp only [Bool.and_eq_true, Bool.and_eq_false_imp, decide_eq_true_eq, decide_eq_false_iff_not] at UE
   refine WL.bF Y (Ev.move Y) Y <| WL.bF Y (Ev.leq Y Y) Y <| ev (Ev.bq Y Y) ?_
   exact WL.bM Y
  | false =>
   refine WL.pass Y Y Y <| WL.pass Y Y Y <| ev (Ev.bn Y Y) ?_
   exact WL.bM Y
 refine aR Y <| dn ?_
 refine WP.ret (aA.aD Y Y Y ?_)
 have hq1 : (((((decide (1 ≤ bO)) && (decide (bO ≤ 16))) && (decide (0 ≤ now))) && (decide (now ≤ 1099511627776))) : Bool) = (vS ⟨bO, now⟩) := by rfl
 exact ⟨by rw [hq1] <;> rfl, H0⟩
theorem Nw {S0 : Nat → Prop} (w : World) {d9 : an3} {eu : Nat} {l : List ABeat} (dN : Sl tBeat S0 w d9 eu l) :
    bY Tryz.prog 90 #[.slice d9 l.length eu] w fun v w' => ∃ (A0 : an3) (c0 : Nat), v = .slice A0 ((dZ l).length) c0 ∧ Hp w S0 w' [fM tBeat A0 c0 (dZ l)] := by
 refine WP.enter Tryz.func90 Y Tryz.ntmps90 Y ?_
 have H0 := Hp.init w S0
 have iJ := dN.aN
 refine rg <| aR Y <| dn <| WP.seq <| rg <| aR Y <| dn <| WP.block <| Lp H0 (fun l0 rk mJ lJ wJ => ∃ (k : Nat), lJ = (3, .int .i64 ((k : Nat) : Int)) :: l0 ∧ mJ = l.length - k ∧ k ≤ l.length ∧ (j6 0 (l.take k) = true) ∧ Hp w S0 wJ rk) ⟨0, Y, Y, Nat.zero_le _, by simp [j6], H0⟩ rfl ?_
 rintro _ _ w1 ⟨k, rfl, rfl, hk, hrise, K1⟩
 refine WP.seq <| rg <| mv Y <| mv Y <| ev (Ev.len Tryz.underlying27 Y) <| ev (Ev.lss Y Y) <| dn ?_
 refine WP.aG Y (fun hc8 => ?_) (fun hc8 => ?_)
 ·
  replace hc8 := of_decide_eq_true hc8
  refine WP.skip (aA.norm ?_)
  refine WP.seq <| WP.block <| WP.draw (by kernel_rfl) (by kernel_rfl) <| WQ.ev (Ev.move Y) Y <| WQ.ev (Ev.move Y) Y ?_
  obtain ⟨x1, hx1⟩ := get_some (xs := l) (i := k) (by omega)
  refine WQ.ev (Ev.index (i := k) Tryz.underlying27 pO Y Y Y (aC hx1) ((K1.a dN).some_ hx1)) Y <| WQ.ev (Ev.field nZ Y (bJ _ _ _)) Y ?_
  refine WQ.ev (Ev.aZ bf Y ((K1.a dN).aX (j := 0) hx1 Y)) Y <| WQ.ev (Ev.move Y) Y <| WQ.ev (Ev.move Y) Y <| WQ.ev (Ev.index (i := k) Tryz.underlying27 pO Y Y Y (aC hx1) ((K1.a dN).some_ hx1)) Y ?_
  refine WQ.ev (Ev.field zI Y (bJ _ _ _)) Y <| WQ.ev (Ev.aZ bf Y ((K1.a dN).aX (j := 1) hx1 Y)) Y <| WQ.call (v := .bool (vS ⟨x1.Node, x1.At⟩)) Y Y Y adw (fun wq eq => (Zk (S0 := Any) wq x1.Node x1.At).mono (by rintro _ _ ⟨rfl, hq2⟩; exact ⟨rfl, hq2.ext⟩)) rfl ?_
  refine WQ.ev (Ev.assign Y) Y ?_
  refine WQ.done fun w2 e2 => ?_
  have K2 := K1.grow e2
  refine WP.draw (by kernel_rfl) (by kernel_rfl) <| WQ.ev (Ev.move Y) Y <| WQ.ev (Ev.not Y) Y <| WQ.ev (Ev.move Y) Y ?_
  refine WQ.dR 17 41 ((!(vS ⟨x1.Node, x1.At⟩)) || (yE l k x1.Node)) ?_ ?_
  ·
   cases OH : (!(vS ⟨x1.Node, x1.At⟩)) with
   | true =>
    refine WQ.pass Y Y Y <| WQ.pass Y Y Y <| WQ.pass Y Y Y <| WQ.pass Y Y Y <| WQ.pass Y Y Y <| WQ.pass Y Y Y <| WQ.pass Y Y Y <| WQ.pass Y Y Y <| WQ.pass Y Y Y <| WQ.pass Y Y Y <| WQ.pass Y Y Y <| WQ.pass Y Y Y <| WQ.pass Y Y Y <| WQ.pass Y Y Y ?_
    refine WQ.pass Y Y Y <| WQ.pass Y Y Y <| WQ.ev (Ev.bq Y Y) Y ?_
    exact WQ.bM Y
   | false =>
    refine WQ.bF Y (Ev.move Y) Y <| WQ.bF Y (Ev.gtr Y Y) Y <| WQ.bF Y (Ev.move Y) Y ?_
    refine WQ.dR 13 40 (yE l k x1.Node) ?_ ?_
    ·
     cases SY : decide (0 < ((k : Nat) : Int)) with
     | true =>
      have QG := of_decide_eq_true SY
      refine WQ.bF Y (Ev.move Y) Y <| WQ.bF Y (Ev.move Y) Y <| WQ.bF Y (Ev.index (i := k) Tryz.underlying27 pO Y Y Y (aC hx1) ((K2.a dN).some_ hx1)) Y ?_
      refine WQ.bF Y (Ev.field nZ Y (bJ _ _ _)) Y <| WQ.bF Y (Ev.aZ bf Y ((K2.a dN).aX (j := 0) hx1 Y)) Y <| WQ.bF Y (Ev.move Y) Y ?_
      refine WQ.bF Y (Ev.move Y) Y <| WQ.bF Y (Ev.Uh (a := k) (b := 1) Y Y Y (by omega) (by omega)) Y ?_
      obtain ⟨x2, hx2⟩ := get_some (xs := l) (i := k - 1) (by omega)
      refine WQ.bF Y (Ev.index (i := k - 1) Tryz.underlying27 pO Y Y Y (aC hx2) ((K2.a dN).some_ hx2)) Y <| WQ.bF Y (Ev.field nZ Y (bJ _ _ _)) Y ?_
      refine WQ.bF Y (Ev.aZ bf Y ((K2.a dN).aX (j := 0) hx2 Y)) Y <| WQ.bF Y (Ev.leq Y Y) Y <| WQ.bF Y (Ev.bq Y Y) Y ?_
      refine WQ.re (t := 40) (u := .bool (decide (x1.Node ≤ x2.Node))) (v := .bool (yE l k x1.Node)) Y (congrArg Value.bool (by exact (Zj (by omega) hx2).symm)) ?_
      exact WQ.bM Y
     | false =>
      refine WQ.pass Y Y Y <| WQ.pass Y Y Y <| WQ.pass Y Y Y <| WQ.pass Y Y Y <| WQ.pass Y Y Y <| WQ.pass Y Y Y <| WQ.pass Y Y Y <| WQ.pass Y Y Y <| WQ.pass Y Y Y <| WQ.pass Y Y Y <| WQ.pass Y Y Y <| WQ.pass Y Y Y <| WQ.bF Y (Ev.bn Y Y) Y <| WQ.re (t := 40) (u := .bool false) (v := .bool (yE l k x1.Node)) Y (congrArg Value.bool (by have := of_decide_eq_false SY; rw [show k = 0 by omega]; rfl)) ?_
      exact WQ.bM Y
    refine WQ.ev (Ev.bn Y Y) Y ?_
    exact WQ.bM Y
  refine WQ.done fun w3 e3 => ?_
  have K3 := K2.grow e3
  refine WP.aG Y (fun vU => ?_) (fun vU => ?_)
  ·
   try simp only [an4, an5, an6, an7, an8, an9, aoa, aob] at vU
   refine rg <| aR Y <| dn ?_
   refine WP.ret (aA.bW (aA.aP (aA.aP (aA.bW (aA.aP (aA.aD Y Y Y ?_))))))
   have H1 := K3.push (Sl.none_ tBeat _ _)
   have hq1 : (([] : List ABeat) : List ABeat) = (dZ l) := by exact (adv hrise hx1 vU).symm
   have H2 := (hq1 ▸ H1 : Hp w S0 w3 (fM tBeat none 0 (dZ l) :: []))
   exact ⟨none, 0, by rw [← hq1] <;> rfl, H2⟩
  try simp only [an4, an5, an6, an7, an8, an9, aoa, aob] at vU
  refine WP.skip (aA.aS (aA.norm ?_))
  refine eP <| mv Y <| ev (Ev.add Y Y (eX.mk (by omega) (by omega))) <| aR Y <| eT ?_
  exact aA.ag ⟨(k + 1), Y, Y, by omega, by exact agu hrise hx1 vU.1 vU.2, K3⟩ rfl (by omega)
 replace hc8 := of_decide_eq_false hc8
 refine WP.exit (aA.aF (aA.aF (aA.bS (aA.norm ?_))))
 refine rg <| mv Y <| aR Y <| dn ?_
 refine WP.ret (aA.aD Y Y Y ?_)
 have H3 := K1.push (K1.a dN)
 have hq2 : (l : List ABeat) = (dZ l) := by rw [List.take_of_length_le (by omega)] at hrise; exact (zH hrise).symm
 have H4 := (hq2 ▸ H3 : Hp w S0 w1 [fM tBeat d9 eu (dZ l)])
 exact ⟨d9, eu, by rw [← hq2] <;> rfl, H4⟩
theorem XR {S0 : Nat → Prop} (w : World) (dB : Int) :
    bY Tryz.prog 148 #[.int .i64 dB] w fun v w' => v = .int .i64 (yZ dB) ∧ Hp w S0 w' [] := by
 refine WP.enter Tryz.func148 Y Tryz.ntmps148 Y ?_
 have H0 := Hp.init w S0
 refine rg <| aR Y <| dn <| WP.seq <| rg <| mv Y <| ev (Ev.lss Y Y) <| dn ?_
 refine WP.aG Y (fun hc4 => ?_) (fun hc4 => ?_)
 ·
  replace hc4 := of_decide_eq_true hc4
  refine rg <| aR Y <| dn ?_
  refine WP.ret (aA.aP (aA.aD Y Y Y ?_))
  have hq1 : (0 : Int) = (yZ dB) := by unfold yZ; simp [hc4]
  exact ⟨by rw [← hq1] <;> rfl, H0⟩
 replace hc4 := of_decide_eq_false hc4
 refine WP.skip (aA.norm ?_)
 refine WP.seq <| rg <| mv Y <| ev (Ev.gtr Y Y) <| dn ?_
 refine WP.aG Y (fun hc6 => ?_) (fun hc6 => ?_)
 ·
  replace hc6 := of_decide_eq_true hc6
  refine rg <| aR Y <| dn ?_
  refine WP.ret (aA.aP (aA.aD Y Y Y ?_))
  have hq2 : (1099511627776 : Int) = (yZ dB) := by unfold yZ; simp [hc4, hc6]
  exact ⟨by rw [← hq2] <;> rfl, H0⟩
 replace hc6 := of_decide_eq_false hc6
 refine WP.skip (aA.norm ?_)
 refine rg <| mv Y <| aR Y <| dn ?_
 refine WP.ret (aA.aD Y Y Y ?_)
 have hq3 : (dB : Int) = (yZ dB) := by unfold yZ; simp [hc4, hc6]
 exact ⟨by rw [← hq3] <;> rfl, H0⟩
theorem Zl (dB : Int) : 0 ≤ yZ dB ∧ yZ dB ≤ 1099511627776 := by unfold yZ; split <;> (try split) <;> omega
theorem TH {S0 : Nat → Prop} (w : World) {QI : an3} {QJ : Nat} {x : List ABeat} (QK : Sl tBeat S0 w QI QJ x) (bO : Int) (now : Int) (dB : Int) :
    bY Tryz.prog 91 #[.slice QI x.length QJ, .int .i64 bO, .int .i64 now, .int .i64 dB] w fun v w' => v = .bool (y7 x bO now dB) ∧ Hp w S0 w' [] := by
 refine WP.enter Tryz.func91 Y Tryz.ntmps91 Y ?_
 have H0 := Hp.init w S0
 have Zc := QK.aN
 have hbl := Zl dB
 refine rg <| aR Y <| dn <| rg <| mv Y <| WL.call Y Y Y aaF (Nw _ (H0.a QK)) Y ?_
 rintro _ w1 ⟨mQ, mR, rfl, h1⟩
 have K1 := H0.c1 h1
 have Eu := (K1.s s0).aN
 refine aR Y <| dn <| WP.seq <| rg <| aR Y <| dn <| WP.block <| Lp K1 (fun l0 rk mJ lJ wJ => ∃ (k : Nat), lJ = (10, .int .i64 ((k : Nat) : Int)) :: l0 ∧ mJ = (dZ x).length - k ∧ k ≤ (dZ x).length ∧ (∀ y ∈ (dZ x).take k, decide (y.Node = bO) = false) ∧ Hp w S0 wJ rk) ⟨0, Y, Y, Nat.zero_le _, by simp, K1⟩ rfl ?_
 rintro _ _ w2 ⟨k, rfl, rfl, hk, hno, K2⟩
 refine WP.seq <| rg <| mv Y <| mv Y <| ev (Ev.len Tryz.underlying27 Y) <| ev (Ev.lss Y Y) <| dn ?_
 refine WP.aG Y (fun hc16 => ?_) (fun hc16 => ?_)
 ·
  replace hc16 := of_decide_eq_true hc16
  refine WP.skip (aA.norm ?_)
  refine WP.seq <| WP.block <| rg <| mv Y <| mv Y ?_
  obtain ⟨x1, hx1⟩ := get_some (xs := dZ x) (i := k) (by omega)
  refine ev (Ev.index (i := k) Tryz.underlying27 pO Y Y Y (aC hx1) ((K2.s s0).some_ hx1)) <| ev (Ev.field nZ Y (bJ _ _ _)) <| ev (Ev.aZ bf Y ((K2.s s0).aX (j := 0) hx1 Y)) ?_
  refine mv Y <| ev (Ev.eql Y Y) <| dn ?_
  refine WP.aG Y (fun hc25 => ?_) (fun hc25 => ?_)
  ·
   replace hc25 := of_decide_eq_true hc25
   refine WP.draw (by kernel_rfl) (by kernel_rfl) <| WQ.ev (Ev.move Y) Y <| WQ.ev (Ev.move Y) Y <| WQ.ev (Ev.move Y) Y <| WQ.ev (Ev.index (i := k) Tryz.underlying27 pO Y Y Y (aC hx1) ((K2.s s0).some_ hx1)) Y <| WQ.ev (Ev.field zI Y (bJ _ _ _)) Y <| WQ.ev (Ev.aZ bf Y ((K2.s s0).aX (j := 1) hx1 Y)) Y <| WQ.ev (Ev.move Y) Y <| WQ.call (v := .int .i64 (yZ dB)) Y Y Y adx (fun wq eq => (XR (S0 := Any) wq dB).mono (by rintro _ _ ⟨rfl, hq2⟩; exact ⟨rfl, hq2.ext⟩)) rfl <| WQ.ev (Ev.add rfl rfl (eX.mk (by have := (Et (bV hx1)).2.2; omega) (by have := (Et (bV hx1)).2.2; omega))) rfl <| WQ.ev (Ev.leq rfl rfl) rfl <| WQ.ev (Ev.assign rfl) rfl ?_
   refine WQ.done fun w3 e3 => ?_
   have K3 := K2.grow e3
   refine WP.ret (aA.bW (aA.aP (aA.aP (aA.bW (aA.aP (aA.aD Y Y Y ?_))))))
   have hq1 : (decide (now ≤ x1.At + yZ dB) : Bool) = (y7 x bO now dB) := by unfold y7; rw [QX hno hx1 (by simpa using hc25)]
   exact ⟨by rw [hq1] <;> rfl, (K3.rm s0)⟩
  replace hc25 := of_decide_eq_false hc25
  refine WP.skip (aA.aS (aA.norm ?_))
  refine eP <| mv Y <| ev (Ev.add Y Y (eX.mk (by omega) (by omega))) <| aR Y <| eT ?_
  exact aA.ag ⟨(k + 1), Y, Y, by omega, by exact gP (q := fun (y : ABeat) => decide (y.Node = bO) = false) hno hx1 (by simpa using hc25), K2⟩ rfl (by omega)
 replace hc16 := of_decide_eq_false hc16
 refine WP.exit (aA.aF (aA.aF (aA.bS (aA.norm ?_))))
 refine rg <| aR Y <| dn ?_
 refine WP.ret (aA.aD Y Y Y ?_)
 have hq2 : (false : Bool) = (y7 x bO now dB) := by unfold y7; rw [Zi (jf hno (by omega))]
 exact ⟨by rw [← hq2] <;> rfl, (K2.rm s0)⟩
theorem Px (l : List ABeat) : dZ (dZ l) = dZ l := by
  by_cases h : j6 0 l = true
  · rw [zH h, zH h]
  · have : dZ l = [] := by unfold dZ; rw [if_neg h]
    rw [this]; rfl
theorem Ny : ∀ (l : List ABeat) (z : Int), j6 z l = true → ∀ b ∈ l, z < b.Node
  | [], _, _, b, hb => by simp at hb
  | c :: l, z, h, b, hb => by
    simp only [j6, Bool.and_eq_true, decide_eq_true_eq] at h
    rcases List.mem_cons.1 hb with rfl | hb
    · exact h.1.2
    · have := Ny l _ h.2 b hb; omega
theorem Nz : ∀ (l : List ABeat) (z : Int), j6 z l = true → Up ABeat.Node l
  | [], _, _ => List.Pairwise.nil
  | c :: l, z, h => by
    simp only [j6, Bool.and_eq_true, decide_eq_true_eq] at h
    exact List.pairwise_cons.2 ⟨fun b hb => Ny l _ h.2 b hb, Nz l _ h.2⟩
theorem XT (l : List ABeat) : Up ABeat.Node (dZ l) := by
  unfold dZ; split
  · rename_i h; exact Nz l 0 h
  · exact List.Pairwise.nil
theorem XU (b : ABeat) (dB : Int) : zJ b dB = b.At + yZ dB := by
  unfold zJ yZ; split <;> (try split) <;> (try split) <;> omega
theorem Up.find {l : List ABeat} (h : Up ABeat.Node l) {b : ABeat} (hb : b ∈ l) : l.find? (fun (y : ABeat) => decide (y.Node = b.Node)) = some b := by
  induction l with
  | nil => simp at hb
  | cons c l ih =>
    have h1 := List.pairwise_cons.1 h
    rcases List.mem_cons.1 hb with rfl | hb
    · simp [List.find?]
    · have := h1.1 b hb
      rw [List.find?_cons, show decide (c.Node = b.Node) = false by simp; omega]
      exact ih h1.2 hb
theorem XV {l : List ABeat} {b : ABeat} (hb : b ∈ dZ l) (now dB : Int) : qU (dZ l) now dB b = vH now dB b := by
  unfold qU y7
  rw [Px, (XT l).find hb]
  unfold vH; rw [XU]
theorem TI (l : List ABeat) (now dB : Int) : (dZ l).filter (qU (dZ l) now dB) = vI l now dB := by
  unfold vI; exact List.filter_congr fun b hb => XV hb now dB
theorem Py {S0 : Nat → Prop} (w : World) {QI : an3} {QJ : Nat} {x : List ABeat} (QK : Sl tBeat S0 w QI QJ x) (now : Int) (dB : Int) (hn : x.length ≤ 400000) :
    bY Tryz.prog 44 #[.slice QI x.length QJ, .int .i64 now, .int .i64 dB] w fun v w' => ∃ (A0 : an3) (c0 : Nat), v = .slice A0 (((vI x now dB).map ABeat.Node).length) c0 ∧ Hp w S0 w' [aQ tInt 3 A0 c0 ((vI x now dB).map ABeat.Node)] := by
 refine WP.enter Tryz.func44 Y Tryz.ntmps44 Y ?_
 have H0 := Hp.init w S0
 have Zc := QK.aN
 have hf := Bo x
 have hq := fun k => List.length_filter_le (qU (dZ x) now dB) ((dZ x).take k)
 simp only [List.length_take] at hq
 refine rg <| aR Y <| dn <| rg <| mv Y <| WL.call Y Y Y aaF (Nw _ (H0.a QK)) Y ?_
 rintro _ w1 ⟨mQ, mR, rfl, h1⟩
 have K1 := H0.c1 h1
 have Eu := (K1.s s0).aN
 refine aR Y <| dn <| rg <| aR Y <| dn <| WP.seq <| rg <| aR Y <| dn <| WP.block ?_
 have H1 := K1.nil tInt 3
 have hq1 : (([] : List Int) : List Int) = ((((dZ x).take 0).filter (qU (dZ x) now dB)).map ABeat.Node) := by rfl
 refine WP.re (t := 8) Y (congrArg (fun z => Value.slice none (List.length z) 0) hq1) ?_
 have H2 := H1.nil tInt 3
 have H3 := (hq1 ▸ H2 : Hp w S0 w1 (aQ tInt 3 none 0 ((((dZ x).take 0).filter (qU (dZ x) now dB)).map ABeat.Node) :: [aQ tInt 3 none 0 [], fM tBeat mQ mR (dZ x)]))
 refine Lp ((H3.rm s1).rm s0) (fun l0 rk mJ lJ wJ => ∃ (k : Nat) (A8 : an3) (c8 : Nat), lJ = (8, .slice A8 (((((dZ x).take k).filter (qU (dZ x) now dB)).map ABeat.Node).length) c8) :: (9, .int .i64 ((k : Nat) : Int)) :: l0 ∧ mJ = (dZ x).length - k ∧ k ≤ (dZ x).length ∧ Hp w S0 wJ (aQ tInt 3 A8 c8 ((((dZ x).take k).filter (qU (dZ x) now dB)).map ABeat.Node) :: rk)) ⟨0, none, 0, Y, Y, Nat.zero_le _, (H3.rm s1)⟩ Y ?_
 rintro _ _ w2 ⟨k, A8, c8, rfl, rfl, hk, K2⟩
 refine WP.seq <| rg <| mv Y <| mv Y <| ev (Ev.len Tryz.underlying27 Y) <| ev (Ev.lss Y Y) <| dn ?_
 refine WP.aG Y (fun hc16 => ?_) (fun hc16 => ?_)
 ·
  replace hc16 := of_decide_eq_true hc16
  refine WP.skip (aA.norm ?_)
  refine WP.seq <| WP.block <| rg <| mv Y <| mv Y <| mv Y ?_
  obtain ⟨x1, hx1⟩ := get_some (xs := dZ x) (i := k) (by omega)
  refine ev (Ev.index (i := k) Tryz.underlying27 pO Y Y Y (aC hx1) ((K2.s s1).some_ hx1)) <| ev (Ev.field nZ Y (bJ _ _ _)) <| ev (Ev.aZ bf Y ((K2.s s1).aX (j := 0) hx1 Y)) ?_
  refine mv Y <| mv Y ?_
  refine C0 K2 Y Y Y agv (TH _ (K2.s s1).any x1.Node now dB) fun w3 K3 => ?_
  refine aR Y <| dn <| rg <| mv Y <| dn ?_
  refine WP.aG Y (fun hc28 => ?_) (fun hc28 => ?_)
  ·
   refine eP <| mv Y <| mv Y <| mv Y <| ev (Ev.index (i := k) Tryz.underlying27 pO Y Y Y (aC hx1) ((K3.s s1).some_ hx1)) <| ev (Ev.field nZ Y (bJ _ _ _)) <| ev (Ev.aZ bf Y ((K3.s s1).aX (j := 0) hx1 Y)) ?_
   refine ni (τ := tInt) (x := x1.Node) Y (by intro _; apply jk) rfl K3 (fun _ _ => rfl) fun g1 w4 K4 => ?_
   refine ap (ys := ([x1.Node] : List Int)) K4 s1 Y Y (K4.o s0) Tryz.underlying51 uF (by have := hq k; simp only [List.length_map]; omega) (by simp) rfl fun jg jh w5 K5 => ?_
   refine aR Y <| eT ?_
   refine aA.aS (aA.norm ?_)
   refine eP <| mv Y <| ev (Ev.add Y Y (eX.mk (by omega) (by omega))) <| aR Y <| eT ?_
   have hq2 : ((((((dZ x).take k).filter (qU (dZ x) now dB)).map ABeat.Node) ++ ([x1.Node] : List Int)) : List Int) = ((((dZ x).take (k + 1)).filter (qU (dZ x) now dB)).map ABeat.Node) := by rw [fQ hx1]; unfold qU; simp [hc16, hc28]
   refine aA.re (t := 8) Y (congrArg (fun z => Value.slice jg (List.length z) jh) hq2) ?_
   rw [hq2] at K5
   exact aA.ag ⟨(k + 1), jg, jh, Y, Y, by omega, (K5.rm s1)⟩ rfl (by omega)
  refine WP.skip (aA.aS (aA.norm ?_))
  refine eP <| mv Y <| ev (Ev.add Y Y (eX.mk (by omega) (by omega))) <| aR Y <| eT ?_
  have hq3 : (((((dZ x).take k).filter (qU (dZ x) now dB)).map ABeat.Node) : List Int) = ((((dZ x).take (k + 1)).filter (qU (dZ x) now dB)).map ABeat.Node) := by rw [fQ hx1]; unfold qU; simp [hc16, hc28]
  refine aA.re (t := 8) Y (congrArg (fun z => Value.slice A8 (List.length z) c8) hq3) ?_
  rw [hq3] at K3
  exact aA.ag ⟨(k + 1), A8, c8, Y, Y, by omega, K3⟩ rfl (by omega)
 replace hc16 := of_decide_eq_false hc16
 refine WP.exit (aA.aF (aA.aF (aA.bS (aA.norm ?_))))
 refine rg <| mv Y <| aR Y <| dn ?_
 refine WP.ret (aA.aD Y Y Y ?_)
 have hq4 : (((((dZ x).take k).filter (qU (dZ x) now dB)).map ABeat.Node) : List Int) = ((vI x now dB).map ABeat.Node) := by rw [List.take_of_length_le (by omega), TI]
 rw [hq4] at K2
 exact ⟨A8, c8, by rw [hq4] <;> rfl, (K2.rm s1)⟩
end Go.Proofs.YtjcklpooaaaglaaGreat
