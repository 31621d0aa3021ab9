/- Texts that the statement needs, with short names. -/
import Derived.Test.YtjcklpooaaaglaaGreatvG15
set_option maxRecDepth 4000
set_option linter.all false
namespace Go.Proofs.YtjcklpooaaaglaaGreat
open Go.RowKit
def jO (c : AChunk) (ids : List Int) : AChunk := { c with av := c.av.filter fun (x9 : Int) => !(ids.contains x9) }
theorem Aa (c : AChunk) : jO c [] = c := by
  unfold jO; rw [List.filter_eq_self.2 (fun x _ => by simp)]
theorem Zm (c : AChunk) (ids : List Int) : (jO c ids).av.length ≤ c.av.length := List.length_filter_le _ _
theorem xA {c : AChunk} {ids : List Int} {k : Nat} {x : Int} (hx : ids[k]? = some x) : (jO c (ids.take k)).av.filter (fun (id : Int) => !decide (id = x)) = (jO c (ids.take (k + 1))).av := by
  unfold jO; simp only; rw [List.filter_filter, dK hx]
  congr 1; funext y
  rw [Bool.eq_iff_iff]
  simp only [Bool.not_eq_true', Bool.and_eq_true, decide_eq_false_iff_not, Bool.eq_false_iff, ne_eq, List.contains_iff_mem, List.mem_append, List.mem_singleton, not_or, decide_eq_true_eq]
  exact And.comm
theorem TJ {l : List AChunk} {bN : List AOrder} {k : Nat} {x : AChunk} (hx : l[k]? = some x) : iN (l.take k) bN ++ [jO x (dI bN x.ID)] = iN (l.take (k + 1)) bN := by
  unfold iN; rw [dK hx, List.map_append]; rfl
theorem Pz (ah : List Int) (c : AChunk) : sN ah c = gL c ah := by unfold sN gL; simp only [Bool.not_not]
theorem XW (x : fF) (c : AChunk) (ls : List ALease) : c.av ++ dO ls c.ID ++ dI x.ds c.ID = OY x c ls := by
  unfold OY; simp [List.flatten_cons, List.append_assoc]
theorem Zn {m : AMeta} {s : ASoft} {r : ARules} {now : Int} (hm : jA m.bC = true) (hq : TQ m s r now = true) (hb : moveB (fV m s now) m.bA (gq s r now) r.aK = true) : uV m.bC (fV m s now) m.bA (gq s r now) r.aK = true := by
  have hd : (bD s now).bH = [] := by
    unfold TQ at hq; simp only [Bool.and_eq_true, decide_eq_true_eq] at hq
    have := hq.2; rw [List.length_append] at this
    exact List.eq_nil_of_length_eq_zero (by omega)
  have hs : fV m s now = m.bC := by unfold fV; rw [hd]; exact SV _
  unfold uV; rw [hb, hs]; rw [hs] at hb
  rcases Ci m.bC m.bA (gq s r now) r.aK with ⟨_, h2⟩ | ⟨⟨_, x, y, c, _, _, hc, _, _, _, _, h6⟩, _⟩
  · rw [h2] at hb; cases hb
  · rw [h6, Bool.true_and]; exact (KS hm hc).1
theorem TK {l : List AChunk} (hm : jA l = true) (ds : List AOrder) : jA (iN l ds) = true := by
  have h := j4.1 hm
  refine j4.2 ⟨fun c hc => ?_, by rw [qz]; exact h.2.1, ?_⟩
  · obtain ⟨c0, h0, rfl⟩ := List.mem_map.1 hc
    have h1 := h.1 c0 h0
    have h2 := qo h1
    have h3 : fB 16 1 (vJ ds c0).av = true := RO h2.2.2 List.filter_sublist
    unfold pX at h1 ⊢
    rw [h3]; simp only [h2.2.2] at h1; exact h1
  · have e : (iN l ds).map AChunk.ID = l.map AChunk.ID := by unfold iN; rw [List.map_map]; rfl
    rw [e]; exact h.2.2
theorem Iw : aM Tryz.prog 66 := fun _ _ => by kernel_rfl
theorem adz : Tryz.prog.eqGuardType Tryz.prog.depth 72 = false := by kernel_rfl
theorem adA (x y : ABeat) (w : World) : (Op.equalIn 10000 72 (.agg x.enc.toArray) (.agg y.enc.toArray)).run Tryz.prog w = .ok (decide (x = y)) w := by
  obtain ⟨a0, a1⟩ := x; obtain ⟨b0, b1⟩ := y
  simp only [ABeat.enc, ABeat.mk.injEq]
  simp [go_sem]
  repeat' split
  all_goals simp_all
theorem adB : Tryz.prog.eqGuardType Tryz.prog.depth 50 = false := by kernel_rfl
theorem adC (x y : AOrder) (w : World) : (Op.equalIn 10000 50 (.agg x.enc.toArray) (.agg y.enc.toArray)).run Tryz.prog w = .ok (decide (x = y)) w := by
  obtain ⟨a0, a1, a2, a3, a4, a5, a6⟩ := x; obtain ⟨b0, b1, b2, b3, b4, b5, b6⟩ := y
  simp only [AOrder.enc, AOrder.mk.injEq]
  simp [go_sem]
  repeat' split
  all_goals simp_all
theorem XY : Size Tryz.prog 60 6 := fun _ => by kernel_rfl
theorem aaG : NT Tryz.prog 60 6 := ⟨fun _ => by kernel_rfl, XY⟩
theorem adD : Tryz.prog.eqGuardType Tryz.prog.depth 60 = false := by kernel_rfl
theorem adE (x y : iT) (w : World) : (Op.equalIn 10000 60 (.agg x.enc.toArray) (.agg y.enc.toArray)).run Tryz.prog w = .ok (decide (x = y)) w := by
  obtain ⟨a0, a1, a2, a3, a4, a5⟩ := x; obtain ⟨b0, b1, b2, b3, b4, b5⟩ := y
  simp only [iT.enc, iT.mk.injEq]
  simp [go_sem]
  repeat' split
  all_goals simp_all
theorem agw : aM Tryz.prog 51 := fun _ _ => by kernel_rfl
theorem agx : aM Tryz.prog 52 := fun _ _ => by kernel_rfl
theorem aaH : aM Tryz.prog 16 := fun _ _ => by kernel_rfl
theorem agy : aM Tryz.prog 56 := fun _ _ => by kernel_rfl
theorem aaI : aM Tryz.prog 30 := fun _ _ => by kernel_rfl
theorem agz : aM Tryz.prog 64 := fun _ _ => by kernel_rfl
theorem FH {S0 : Nat → Prop} (w : World) {l8 : an3} {l9 : Nat} {bN : List AOrder} (kM : Sl tOrder S0 w l8 l9 bN) (dJ : Int) (hn : bN.length ≤ 100000) :
    bY Tryz.prog 30 #[.slice l8 bN.length l9, .int .i64 dJ] w fun v w' => ∃ (A0 : an3) (c0 : Nat), v = .slice A0 ((dI bN dJ).length) c0 ∧ Hp w S0 w' [aQ tInt 3 A0 c0 (dI bN dJ)] := by
 refine WP.enter Tryz.func30 Y Tryz.ntmps30 Y ?_
 have H0 := Hp.init w S0
 have EO := kM.aN
 have hq := fun k => List.length_filter_le (fun (o : AOrder) => decide (o.aB = dJ)) (bN.take k)
 simp only [List.length_take] at hq
 refine rg <| aR Y <| dn <| rg <| aR Y <| dn <| WP.seq <| rg <| aR Y <| dn <| WP.block ?_
 have H1 := H0.nil tInt 3
 have hq1 : (([] : List Int) : List Int) = (((bN.take 0).filter (fun (o : AOrder) => decide (o.aB = dJ))).map AOrder.To) := by rfl
 refine WP.re (t := 5) Y (congrArg (fun z => Value.slice none (List.length z) 0) hq1) ?_
 have H2 := H1.nil tInt 3
 have H3 := (hq1 ▸ H2 : Hp w S0 w (aQ tInt 3 none 0 (((bN.take 0).filter (fun (o : AOrder) => decide (o.aB = dJ))).map AOrder.To) :: [aQ tInt 3 none 0 []]))
 refine Lp ((H3.rm s1).rm s0) (fun l0 rk mJ lJ wJ => ∃ (k : Nat) (A5 : an3) (c5 : Nat), lJ = (5, .slice A5 ((((bN.take k).filter (fun (o : AOrder) => decide (o.aB = dJ))).map AOrder.To).length) c5) :: (6, .int .i64 ((k : Nat) : Int)) :: l0 ∧ mJ = bN.length - k ∧ k ≤ bN.length ∧ Hp w S0 wJ (aQ tInt 3 A5 c5 (((bN.take k).filter (fun (o : AOrder) => decide (o.aB = dJ))).map AOrder.To) :: rk)) ⟨0, none, 0, Y, Y, Nat.zero_le _, (H3.rm s1)⟩ Y ?_
 rintro _ _ w1 ⟨k, A5, c5, rfl, rfl, hk, K1⟩
 refine WP.seq <| rg <| mv Y <| mv Y <| ev (Ev.len Tryz.underlying29 Y) <| ev (Ev.lss Y Y) <| dn ?_
 refine WP.aG Y (fun iR => ?_) (fun iR => ?_)
 ·
  replace iR := of_decide_eq_true iR
  refine WP.skip (aA.norm ?_)
  refine WP.seq <| WP.block <| rg <| mv Y <| mv Y ?_
  obtain ⟨x1, hx1⟩ := get_some (xs := bN) (i := k) (by omega)
  refine ev (Ev.index (i := k) Tryz.underlying29 gW Y Y Y (aC hx1) ((K1.a kM).some_ hx1)) <| ev (Ev.field xK Y (bJ _ _ _)) <| ev (Ev.aZ bf Y ((K1.a kM).aX (j := 1) hx1 Y)) ?_
  refine mv Y <| ev (Ev.eql Y Y) <| dn ?_
  refine WP.aG Y (fun hc19 => ?_) (fun hc19 => ?_)
  ·
   replace hc19 := of_decide_eq_true hc19
   refine eP <| mv Y <| mv Y <| mv Y <| ev (Ev.index (i := k) Tryz.underlying29 gW Y Y Y (aC hx1) ((K1.a kM).some_ hx1)) <| ev (Ev.field zM Y (bJ _ _ _)) <| ev (Ev.aZ bf Y ((K1.a kM).aX (j := 5) hx1 Y)) ?_
   refine ni (τ := tInt) (x := x1.To) Y (by intro _; apply jk) rfl K1 (fun _ _ => rfl) fun g1 w2 K2 => ?_
   refine ap (ys := ([x1.To] : List Int)) K2 s1 Y Y (K2.o s0) Tryz.underlying51 uF (by have := hq k; simp only [List.length_map]; omega) (by simp) rfl fun jg jh w3 K3 => ?_
   refine aR Y <| eT ?_
   refine aA.aS (aA.norm ?_)
   refine eP <| mv Y <| ev (Ev.add Y Y (eX.mk (by omega) (by omega))) <| aR Y <| eT ?_
   have hq2 : (((((bN.take k).filter (fun (o : AOrder) => decide (o.aB = dJ))).map AOrder.To) ++ ([x1.To] : List Int)) : List Int) = (((bN.take (k + 1)).filter (fun (o : AOrder) => decide (o.aB = dJ))).map AOrder.To) := by rw [fQ hx1]; simp [hc19]
   refine aA.re (t := 5) Y (congrArg (fun z => Value.slice jg (List.length z) jh) hq2) ?_
   rw [hq2] at K3
   exact aA.ag ⟨(k + 1), jg, jh, Y, Y, by omega, (K3.rm s1)⟩ rfl (by omega)
  replace hc19 := of_decide_eq_false hc19
  refine WP.skip (aA.aS (aA.norm ?_))
  refine eP <| mv Y <| ev (Ev.add Y Y (eX.mk (by omega) (by omega))) <| aR Y <| eT ?_
  have hq3 : ((((bN.take k).filter (fun (o : AOrder) => decide (o.aB = dJ))).map AOrder.To) : List Int) = (((bN.take (k + 1)).filter (fun (o : AOrder) => decide (o.aB = dJ))).map AOrder.To) := by rw [fQ hx1]; simp [hc19]
  refine aA.re (t := 5) Y (congrArg (fun z => Value.slice A5 (List.length z) c5) hq3) ?_
  rw [hq3] at K1
  exact aA.ag ⟨(k + 1), A5, c5, Y, Y, by omega, K1⟩ rfl (by omega)
 replace iR := of_decide_eq_false iR
 refine WP.exit (aA.aF (aA.aF (aA.bS (aA.norm ?_))))
 refine rg <| mv Y <| aR Y <| dn ?_
 refine WP.ret (aA.aD Y Y Y ?_)
 have hq4 : ((((bN.take k).filter (fun (o : AOrder) => decide (o.aB = dJ))).map AOrder.To) : List Int) = (dI bN dJ) := by rw [List.take_of_length_le (by omega)]; rfl
 rw [hq4] at K1
 exact ⟨A5, c5, by rw [hq4] <;> rfl, K1⟩
theorem uh {S0 : Nat → Prop} (w : World) (n : Int) (lZ : Int) (most : Int) :
    bY Tryz.prog 66 #[.int .i64 n, .int .i64 lZ, .int .i64 most] w fun v w' => v = .bool (decide (lZ ≤ n) && decide (n ≤ most)) ∧ Hp w S0 w' [] := by
 refine WP.enter Tryz.func66 Y Tryz.ntmps66 Y ?_
 have H0 := Hp.init w S0
 refine rg <| aR Y <| dn <| rg <| mv Y <| mv Y <| ev (Ev.geq Y Y) <| mv Y ?_
 refine WL.dR 4 14 ((decide (lZ ≤ n)) && (decide (n ≤ most))) ?_ ?_
 ·
  cases UU : decide (lZ ≤ n) with
  | true =>
   have ZG := of_decide_eq_true UU
   refine WL.bF Y (Ev.move Y) Y <| WL.bF Y (Ev.move Y) Y <| WL.bF Y (Ev.leq Y Y) Y <| ev (Ev.bq Y Y) ?_
   exact WL.bM Y
  | false =>
   refine WL.pass Y Y Y <| WL.pass Y Y Y <| WL.pass Y Y Y <| ev (Ev.bn Y Y) ?_
   exact WL.bM Y
 refine aR Y <| dn ?_
 refine WP.ret (aA.aD Y Y Y ?_)
 have hq1 : (((decide (lZ ≤ n)) && (decide (n ≤ most))) : Bool) = (decide (lZ ≤ n) && decide (n ≤ most)) := by rfl
 exact ⟨by rw [hq1] <;> rfl, H0⟩
theorem Iy {S0 : Nat → Prop} (w : World) (r : ARules) :
    bY Tryz.prog 24 #[.agg #[.int .i64 r.eG, .int .i64 r.fU, .int .i64 r.All, .int .i64 r.gy, .int .i64 r.dW, .int .i64 r.aK]] w fun v w' => v = .bool (jD r) ∧ Hp w S0 w' [] := by
 refine WP.enter Tryz.func24 Y Tryz.ntmps24 Y ?_
 have H0 := Hp.init w S0
 refine rg ?_
 refine bx Y Y H0 fun g1 w1 K1 => ?_
 refine aR Y <| dn <| rg <| ev (Ev.field (q := ⟨g1, 0, none⟩) Da Y Y) <| ev (Ev.aj bf Y (K1.x s0) Y) ?_
 refine C0 K1 Y Y Y Iw (uh (S0 := Any) _ r.eG 1 1048576) fun w2 K2 => ?_
 refine aR Y <| dn <| rg <| ev (Ev.field (q := ⟨g1, 4, none⟩) xP Y Y) <| ev (Ev.aj bf Y (K2.x s0) Y) ?_
 refine C0 K2 Y Y Y Iw (uh (S0 := Any) _ r.dW 1 1048576) fun w3 K3 => ?_
 refine aR Y <| dn <| rg <| ev (Ev.field (q := ⟨g1, 1, none⟩) xQ Y Y) <| ev (Ev.aj bf Y (K3.x s0) Y) ?_
 refine C0 K3 Y Y Y Iw (uh (S0 := Any) _ r.fU 1 64) fun w4 K4 => ?_
 refine aR Y <| dn <| rg <| ev (Ev.field (q := ⟨g1, 2, none⟩) Db Y Y) <| ev (Ev.aj bf Y (K4.x s0) Y) ?_
 refine C0 K4 Y Y Y Iw (uh (S0 := Any) _ r.All 1 64) fun w5 K5 => ?_
 refine aR Y <| dn <| rg <| ev (Ev.field (q := ⟨g1, 3, none⟩) rQ Y Y) <| ev (Ev.aj bf Y (K5.x s0) Y) ?_
 refine C0 K5 Y Y Y Iw (uh (S0 := Any) _ r.gy 1 8) fun w6 K6 => ?_
 refine aR Y <| dn <| rg <| ev (Ev.field (q := ⟨g1, 5, none⟩) Dc Y Y) <| ev (Ev.aj bf Y (K6.x s0) Y) ?_
 refine C0 K6 Y Y Y Iw (uh (S0 := Any) _ r.aK 1 16) fun w7 K7 => ?_
 refine aR Y <| dn <| rg <| mv Y <| mv Y ?_
 refine WL.dR 2 30 ((decide (1 ≤ r.eG) && decide (r.eG ≤ 1048576)) && (decide (1 ≤ r.dW) && decide (r.dW ≤ 1048576))) ?_ ?_
 ·
  cases Lm : decide (1 ≤ r.eG) && decide (r.eG ≤ 1048576) with
  | true =>
   have GZ := Lm
   try simp only [Bool.and_eq_true, Bool.and_eq_false_imp, decide_eq_true_eq, decide_eq_false_iff_not] at GZ
   refine WL.bF Y (Ev.move Y) Y <| ev (Ev.bq Y Y) ?_
   exact WL.bM Y
  | false =>
   refine WL.pass Y Y Y <| ev (Ev.bn Y Y) ?_
   exact WL.bM Y
 refine mv Y ?_
 refine WL.dR 2 33 (((decide (1 ≤ r.eG) && decide (r.eG ≤ 1048576)) && (decide (1 ≤ r.dW) && decide (r.dW ≤ 1048576))) && (decide (1 ≤ r.fU) && decide (r.fU ≤ 64))) ?_ ?_
 ·
  cases Xj : ((decide (1 ≤ r.eG) && decide (r.eG ≤ 1048576)) && (decide (1 ≤ r.dW) && decide (r.dW ≤ 1048576))) with
  | true =>
   have Xk := Xj
   try simp only [Bool.and_eq_true, Bool.and_eq_false_imp, decide_eq_true_eq, decide_eq_false_iff_not] at Xk
   refine WL.bF Y (Ev.move Y) Y <| ev (Ev.bq Y Y) ?_
   exact WL.bM Y
  | false =>
   refine WL.pass Y Y Y <| ev (Ev.bn Y Y) ?_
   exact WL.bM Y
 refine mv Y ?_
 refine WL.dR 2 36 ((((decide (1 ≤ r.eG) && decide (r.eG ≤ 1048576)) && (decide (1 ≤ r.dW) && decide (r.dW ≤ 1048576))) && (decide (1 ≤ r.fU) && decide (r.fU ≤ 64))) && (decide (1 ≤ r.All) && decide (r.All ≤ 64))) ?_ ?_
 ·
  cases adu : (((decide (1 ≤ r.eG) && decide (r.eG ≤ 1048576)) && (decide (1 ≤ r.dW) && decide (r.dW ≤ 1048576))) && (decide (1 ≤ r.fU) && decide (r.fU ≤ 64))) with
  | true =>
   have agA := adu
   try simp only [Bool.and_eq_true, Bool.and_eq_false_imp, decide_eq_true_eq, decide_eq_false_iff_not] at agA
   refine WL.bF Y (Ev.move Y) Y <| ev (Ev.bq Y Y) ?_
   exact WL.bM Y
  | false =>
   refine WL.pass Y Y Y <| ev (Ev.bn Y Y) ?_
   exact WL.bM Y
 refine mv Y ?_
 refine WL.dR 2 39 (((((decide (1 ≤ r.eG) && decide (r.eG ≤ 1048576)) && (decide (1 ≤ r.dW) && decide (r.dW ≤ 1048576))) && (decide (1 ≤ r.fU) && decide (r.fU ≤ 64))) && (decide (1 ≤ r.All) && decide (r.All ≤ 64))) && (decide (1 ≤ r.gy) && decide (r.gy ≤ 8))) ?_ ?_
 ·
  cases yQ : ((((decide (1 ≤ r.eG) && decide (r.eG ≤ 1048576)) && (decide (1 ≤ r.dW) && decide (r.dW ≤ 1048576))) && (decide (1 ≤ r.fU) && decide (r.fU ≤ 64))) && (decide (1 ≤ r.All) && decide (r.All ≤ 64))) with
  | true =>
   have Xc := yQ
   try simp only [Bool.and_eq_true, Bool.and_eq_false_imp, decide_eq_true_eq, decide_eq_false_iff_not] at Xc
   refine WL.bF Y (Ev.move Y) Y <| ev (Ev.bq Y Y) ?_
   exact WL.bM Y
  | false =>
   refine WL.pass Y Y Y <| ev (Ev.bn Y Y) ?_
   exact WL.bM Y
 refine mv Y ?_
 refine WL.dR 2 42 ((((((decide (1 ≤ r.eG) && decide (r.eG ≤ 1048576)) && (decide (1 ≤ r.dW) && decide (r.dW ≤ 1048576))) && (decide (1 ≤ r.fU) && decide (r.fU ≤ 64))) && (decide (1 ≤ r.All) && decide (r.All ≤ 64))) && (decide (1 ≤ r.gy) && decide (r.gy ≤ 8))) && (decide (1 ≤ r.aK) && decide (r.aK ≤ 16))) ?_ ?_
 ·
  cases I9 : (((((decide (1 ≤ r.eG) && decide (r.eG ≤ 1048576)) && (decide (1 ≤ r.dW) && decide (r.dW ≤ 1048576))) && (decide (1 ≤ r.fU) && decide (r.fU ≤ 64))) && (decide (1 ≤ r.All) && decide (r.All ≤ 64))) && (decide (1 ≤ r.gy) && decide (r.gy ≤ 8))) with
  | true =>
   have QH := I9
   try simp only [Bool.and_eq_true, Bool.and_eq_false_imp, decide_eq_true_eq, decide_eq_false_iff_not] at QH
   refine WL.bF Y (Ev.move Y) Y <| ev (Ev.bq Y Y) ?_
   exact WL.bM Y
  | false =>
   refine WL.pass Y Y Y <| ev (Ev.bn Y Y) ?_
   exact WL.bM Y
 refine aR Y <| dn ?_
 refine WP.ret (aA.aD Y Y Y ?_)
 have hq1 : (((((((decide (1 ≤ r.eG) && decide (r.eG ≤ 1048576)) && (decide (1 ≤ r.dW) && decide (r.dW ≤ 1048576))) && (decide (1 ≤ r.fU) && decide (r.fU ≤ 64))) && (decide (1 ≤ r.All) && decide (r.All ≤ 64))) && (decide (1 ≤ r.gy) && decide (r.gy ≤ 8))) && (decide (1 ≤ r.aK) && decide (r.aK ≤ 16))) : Bool) = (jD r) := by rfl
 exact ⟨by rw [hq1] <;> rfl, (K7.rm s0)⟩
theorem PD {S0 : Nat → Prop} (w : World) {Gz : an3} {GA : Nat} {a : List ABeat} (uD : Sl tBeat S0 w Gz GA a) {GD : an3} {GH : Nat} {b : List ABeat} (uE : Sl tBeat S0 w GD GH b) :
    bY Tryz.prog 51 #[.slice Gz a.length GA, .slice GD b.length GH] w fun v w' => v = .bool (decide (a = b)) ∧ Hp w S0 w' [] := by
 refine WP.enter Tryz.func51 Y Tryz.ntmps51 Y ?_
 have H0 := Hp.init w S0
 have RI := uD.aN
 have RJ := uE.aN
 refine rg <| aR Y <| dn <| WP.seq <| rg <| mv Y <| ev (Ev.len Tryz.underlying27 Y) <| mv Y <| ev (Ev.len Tryz.underlying27 Y) <| ev (Ev.neq Y Y) <| dn ?_
 refine WP.aG Y (fun iR => ?_) (fun iR => ?_)
 ·
  replace iR := gJ iR
  refine rg <| aR Y <| dn ?_
  refine WP.ret (aA.aP (aA.aD Y Y Y ?_))
  have hq1 : (false : Bool) = (decide (a = b)) := by symm; simp only [decide_eq_false_iff_not]; intro h; subst h; exact iR rfl
  exact ⟨by rw [← hq1] <;> rfl, H0⟩
 replace iR := gD iR
 refine WP.skip (aA.norm ?_)
 refine WP.seq <| rg <| aR Y <| dn <| WP.block <| Lp H0 (fun l0 rk mJ lJ wJ => ∃ (k : Nat), lJ = (5, .int .i64 ((k : Nat) : Int)) :: l0 ∧ mJ = a.length - k ∧ k ≤ a.length ∧ (a.take k = b.take k) ∧ Hp w S0 wJ rk) ⟨0, Y, Y, Nat.zero_le _, by simp, H0⟩ rfl ?_
 rintro _ _ w1 ⟨k, rfl, rfl, hk, hse, K1⟩
 refine WP.seq <| rg <| mv Y <| mv Y <| ev (Ev.len Tryz.underlying27 Y) <| ev (Ev.lss Y Y) <| dn ?_
 refine WP.aG Y (fun fE => ?_) (fun fE => ?_)
 ·
  replace fE := of_decide_eq_true fE
  refine WP.skip (aA.norm ?_)
  refine WP.seq <| WP.block <| WP.draw (by kernel_rfl) (by kernel_rfl) <| WQ.ev (Ev.move Y) Y <| WQ.ev (Ev.move Y) Y ?_
  obtain ⟨x1, hx1⟩ := get_some (xs := a) (i := k) (by omega)
  refine WQ.ev (Ev.index (i := k) Tryz.underlying27 pO Y Y Y (aC hx1) ((K1.a uD).some_ hx1)) Y <| WQ.ev (Ev.loadRow Es Y Y ((K1.a uD).dx hx1)) Y ?_
  refine WQ.ev (Ev.move Y) Y <| WQ.ev (Ev.move Y) Y ?_
  obtain ⟨x2, hx2⟩ := get_some (xs := b) (i := k) (by omega)
  refine WQ.ev (Ev.index (i := k) Tryz.underlying27 pO Y Y Y (aC hx2) ((K1.a uE).some_ hx2)) Y <| WQ.ev (Ev.loadRow Es Y Y ((K1.a uE).dx hx2)) Y ?_
  refine WQ.ev (Ev.neS Y Y (adA x1 x2) adz) Y ?_
  refine WQ.done fun w2 e2 => ?_
  have K2 := K1.grow e2
  refine WP.aG Y (fun hc25 => ?_) (fun hc25 => ?_)
  ·
   replace hc25 := gJ hc25
   refine rg <| aR Y <| dn ?_
   refine WP.ret (aA.bW (aA.aP (aA.aP (aA.bW (aA.aP (aA.aD Y Y Y ?_))))))
   have hq2 : (false : Bool) = (decide (a = b)) := by symm; simp only [decide_eq_false_iff_not]; intro h; subst h; rw [hx1] at hx2; cases hx2; exact hc25 rfl
   exact ⟨by rw [← hq2] <;> rfl, K2⟩
  replace hc25 := gD hc25
  refine WP.skip (aA.aS (aA.norm ?_))
  refine eP <| mv Y <| ev (Ev.add Y Y (eX.mk (by omega) (by omega))) <| aR Y <| eT ?_
  exact aA.ag ⟨(k + 1), Y, Y, by omega, by exact sZ hse hx1 hx2 (by simpa using hc25), K2⟩ rfl (by omega)
 replace fE := of_decide_eq_false fE
 refine WP.exit (aA.aF (aA.aF (aA.bS (aA.norm ?_))))
 refine rg <| aR Y <| dn ?_
 refine WP.ret (aA.aD Y Y Y ?_)
 have hq3 : (true : Bool) = (decide (a = b)) := by symm; simp only [decide_eq_true_eq]; rw [List.take_of_length_le (by omega), List.take_of_length_le (by omega)] at hse; exact hse
 exact ⟨by rw [← hq3] <;> rfl, K1⟩
theorem Ab {S0 : Nat → Prop} (w : World) {Gz : an3} {GA : Nat} {a : List AOrder} (uD : Sl tOrder S0 w Gz GA a) {GD : an3} {GH : Nat} {b : List AOrder} (uE : Sl tOrder S0 w GD GH b) :
    bY Tryz.prog 16 #[.slice Gz a.length GA, .slice GD b.length GH] w fun v w' => v = .bool (decide (a = b)) ∧ Hp w S0 w' [] := by
 refine WP.enter Tryz.func16 Y Tryz.ntmps16 Y ?_
 have H0 := Hp.init w S0
 have RI := uD.aN
 have RJ := uE.aN
 refine rg <| aR Y <| dn <| WP.seq <| rg <| mv Y <| ev (Ev.len Tryz.underlying29 Y) <| mv Y <| ev (Ev.len Tryz.underlying29 Y) <| ev (Ev.neq Y Y) <| dn ?_
 refine WP.aG Y (fun iR => ?_) (fun iR => ?_)
 ·
  replace iR := gJ iR
  refine rg <| aR Y <| dn ?_
  refine WP.ret (aA.aP (aA.aD Y Y Y ?_))
  have hq1 : (false : Bool) = (decide (a = b)) := by symm; simp only [decide_eq_false_iff_not]; intro h; subst h; exact iR rfl
  exact ⟨by rw [← hq1] <;> rfl, H0⟩
 replace iR := gD iR
 refine WP.skip (aA.norm ?_)
 refine WP.seq <| rg <| aR Y <| dn <| WP.block <| Lp H0 (fun l0 rk mJ lJ wJ => ∃ (k : Nat), lJ = (5, .int .i64 ((k : Nat) : Int)) :: l0 ∧ mJ = a.length - k ∧ k ≤ a.length ∧ (a.take k = b.take k) ∧ Hp w S0 wJ rk) ⟨0, Y, Y, Nat.zero_le _, by simp, H0⟩ rfl ?_
 rintro _ _ w1 ⟨k, rfl, rfl, hk, hse, K1⟩
 refine WP.seq <| rg <| mv Y <| mv Y <| ev (Ev.len Tryz.underlying29 Y) <| ev (Ev.lss Y Y) <| dn ?_
 refine WP.aG Y (fun fE => ?_) (fun fE => ?_)
 ·
  replace fE := of_decide_eq_true fE
  refine WP.skip (aA.norm ?_)
  refine WP.seq <| WP.block <| WP.draw (by kernel_rfl) (by kernel_rfl) <| WQ.ev (Ev.move Y) Y <| WQ.ev (Ev.move Y) Y ?_
  obtain ⟨x1, hx1⟩ := get_some (xs := a) (i := k) (by omega)
  refine WQ.ev (Ev.index (i := k) Tryz.underlying29 gW Y Y Y (aC hx1) ((K1.a uD).some_ hx1)) Y <| WQ.ev (Ev.loadRow jV Y Y ((K1.a uD).dx hx1)) Y ?_
  refine WQ.ev (Ev.move Y) Y <| WQ.ev (Ev.move Y) Y ?_
  obtain ⟨x2, hx2⟩ := get_some (xs := b) (i := k) (by omega)
  refine WQ.ev (Ev.index (i := k) Tryz.underlying29 gW Y Y Y (aC hx2) ((K1.a uE).some_ hx2)) Y <| WQ.ev (Ev.loadRow jV Y Y ((K1.a uE).dx hx2)) Y ?_
  refine WQ.ev (Ev.neS Y Y (adC x1 x2) adB) Y ?_
  refine WQ.done fun w2 e2 => ?_
  have K2 := K1.grow e2
  refine WP.aG Y (fun hc25 => ?_) (fun hc25 => ?_)
  ·
   replace hc25 := gJ hc25
   refine rg <| aR Y <| dn ?_
   refine WP.ret (aA.bW (aA.aP (aA.aP (aA.bW (aA.aP (aA.aD Y Y Y ?_))))))
   have hq2 : (false : Bool) = (decide (a = b)) := by symm; simp only [decide_eq_false_iff_not]; intro h; subst h; rw [hx1] at hx2; cases hx2; exact hc25 rfl
   exact ⟨by rw [← hq2] <;> rfl, K2⟩
  replace hc25 := gD hc25
  refine WP.skip (aA.aS (aA.norm ?_))
  refine eP <| mv Y <| ev (Ev.add Y Y (eX.mk (by omega) (by omega))) <| aR Y <| eT ?_
  exact aA.ag ⟨(k + 1), Y, Y, by omega, by exact sZ hse hx1 hx2 (by simpa using hc25), K2⟩ rfl (by omega)
 replace fE := of_decide_eq_false fE
 refine WP.exit (aA.aF (aA.aF (aA.bS (aA.norm ?_))))
 refine rg <| aR Y <| dn ?_
 refine WP.ret (aA.aD Y Y Y ?_)
 have hq3 : (true : Bool) = (decide (a = b)) := by symm; simp only [decide_eq_true_eq]; rw [List.take_of_length_le (by omega), List.take_of_length_le (by omega)] at hse; exact hse
 exact ⟨by rw [← hq3] <;> rfl, K1⟩
theorem PE {S0 : Nat → Prop} (w : World) {Gz : an3} {GA : Nat} {a : List iT} (uD : Sl nI S0 w Gz GA a) {GD : an3} {GH : Nat} {b : List iT} (uE : Sl nI S0 w GD GH b) :
    bY Tryz.prog 17 #[.slice Gz a.length GA, .slice GD b.length GH] w fun v w' => v = .bool (decide (a = b)) ∧ Hp w S0 w' [] := by
 refine WP.enter Tryz.func17 Y Tryz.ntmps17 Y ?_
 have H0 := Hp.init w S0
 have RI := uD.aN
 have RJ := uE.aN
 refine rg <| aR Y <| dn <| WP.seq <| rg <| mv Y <| ev (Ev.len Tryz.underlying37 Y) <| mv Y <| ev (Ev.len Tryz.underlying37 Y) <| ev (Ev.neq Y Y) <| dn ?_
 refine WP.aG Y (fun iR => ?_) (fun iR => ?_)
 ·
  replace iR := gJ iR
  refine rg <| aR Y <| dn ?_
  refine WP.ret (aA.aP (aA.aD Y Y Y ?_))
  have hq1 : (false : Bool) = (decide (a = b)) := by symm; simp only [decide_eq_false_iff_not]; intro h; subst h; exact iR rfl
  exact ⟨by rw [← hq1] <;> rfl, H0⟩
 replace iR := gD iR
 refine WP.skip (aA.norm ?_)
 refine WP.seq <| rg <| aR Y <| dn <| WP.block <| Lp H0 (fun l0 rk mJ lJ wJ => ∃ (k : Nat), lJ = (5, .int .i64 ((k : Nat) : Int)) :: l0 ∧ mJ = a.length - k ∧ k ≤ a.length ∧ (a.take k = b.take k) ∧ Hp w S0 wJ rk) ⟨0, Y, Y, Nat.zero_le _, by simp, H0⟩ rfl ?_
 rintro _ _ w1 ⟨k, rfl, rfl, hk, hse, K1⟩
 refine WP.seq <| rg <| mv Y <| mv Y <| ev (Ev.len Tryz.underlying37 Y) <| ev (Ev.lss Y Y) <| dn ?_
 refine WP.aG Y (fun fE => ?_) (fun fE => ?_)
 ·
  replace fE := of_decide_eq_true fE
  refine WP.skip (aA.norm ?_)
  refine WP.seq <| WP.block <| WP.draw (by kernel_rfl) (by kernel_rfl) <| WQ.ev (Ev.move Y) Y <| WQ.ev (Ev.move Y) Y ?_
  obtain ⟨x1, hx1⟩ := get_some (xs := a) (i := k) (by omega)
  refine WQ.ev (Ev.index (i := k) Tryz.underlying37 XY Y Y Y (aC hx1) ((K1.a uD).some_ hx1)) Y <| WQ.ev (Ev.loadRow aaG Y Y ((K1.a uD).dx hx1)) Y ?_
  refine WQ.ev (Ev.move Y) Y <| WQ.ev (Ev.move Y) Y ?_
  obtain ⟨x2, hx2⟩ := get_some (xs := b) (i := k) (by omega)
  refine WQ.ev (Ev.index (i := k) Tryz.underlying37 XY Y Y Y (aC hx2) ((K1.a uE).some_ hx2)) Y <| WQ.ev (Ev.loadRow aaG Y Y ((K1.a uE).dx hx2)) Y ?_
  refine WQ.ev (Ev.neS Y Y (adE x1 x2) adD) Y ?_
  refine WQ.done fun w2 e2 => ?_
  have K2 := K1.grow e2
  refine WP.aG Y (fun hc25 => ?_) (fun hc25 => ?_)
  ·
   replace hc25 := gJ hc25
   refine rg <| aR Y <| dn ?_
   refine WP.ret (aA.bW (aA.aP (aA.aP (aA.bW (aA.aP (aA.aD Y Y Y ?_))))))
   have hq2 : (false : Bool) = (decide (a = b)) := by symm; simp only [decide_eq_false_iff_not]; intro h; subst h; rw [hx1] at hx2; cases hx2; exact hc25 rfl
   exact ⟨by rw [← hq2] <;> rfl, K2⟩
  replace hc25 := gD hc25
  refine WP.skip (aA.aS (aA.norm ?_))
  refine eP <| mv Y <| ev (Ev.add Y Y (eX.mk (by omega) (by omega))) <| aR Y <| eT ?_
  exact aA.ag ⟨(k + 1), Y, Y, by omega, by exact sZ hse hx1 hx2 (by simpa using hc25), K2⟩ rfl (by omega)
 replace fE := of_decide_eq_false fE
 refine WP.exit (aA.aF (aA.aF (aA.bS (aA.norm ?_))))
 refine rg <| aR Y <| dn ?_
 refine WP.ret (aA.aD Y Y Y ?_)
 have hq3 : (true : Bool) = (decide (a = b)) := by symm; simp only [decide_eq_true_eq]; rw [List.take_of_length_le (by omega), List.take_of_length_le (by omega)] at hse; exact hse
 exact ⟨by rw [← hq3] <;> rfl, K1⟩
theorem FI {S0 : Nat → Prop} (w : World) (a : ASoft) {Xf : an3} {Xg : Nat} (ac4 : Sl tBeat S0 w Xf Xg a.bU) {agB : an3} {agC : Nat} (ajZ : Sl tLease S0 w agB agC a.bI) {agD : an3} {agE : Nat} (aj0 : Sl tOrder S0 w agD agE a.bH) (b : ASoft) {Xh : an3} {Xi : Nat} (ac5 : Sl tBeat S0 w Xh Xi b.bU) {agF : an3} {agG : Nat} (aj1 : Sl tLease S0 w agF agG b.bI) {agH : an3} {agI : Nat} (aj2 : Sl tOrder S0 w agH agI b.bH) :
    bY Tryz.prog 15 #[.agg #[.slice Xf a.bU.length Xg, .slice agB a.bI.length agC, .slice agD a.bH.length agE], .agg #[.slice Xh b.bU.length Xi, .slice agF b.bI.length agG, .slice agH b.bH.length agI]] w fun v w' => v = .bool (decide (a = b)) ∧ Hp w S0 w' [] := by
 refine WP.enter Tryz.func15 Y Tryz.ntmps15 Y ?_
 have H0 := Hp.init w S0
 refine rg ?_
 refine bx Y Y H0 fun g1 w1 K1 => ?_
 refine bx Y Y K1 fun g2 w2 K2 => ?_
 refine aR Y <| dn <| rg <| ev (Ev.field (q := ⟨g1, 0, none⟩) qh Y Y) <| ev (Ev.aj zK Y (K2.x s1) Y) <| ev (Ev.field (q := ⟨g2, 0, none⟩) qh Y Y) <| ev (Ev.aj zK Y (K2.x s0) Y) ?_
 refine C0 K2 Y Y Y agw (PD _ (K2.a ac4).any (K2.a ac5).any) fun w3 K3 => ?_
 refine aR Y <| dn <| rg <| ev (Ev.field (q := ⟨g1, 1, none⟩) iV Y Y) <| ev (Ev.aj oo Y (K3.x s1) Y) <| ev (Ev.field (q := ⟨g2, 1, none⟩) iV Y Y) <| ev (Ev.aj oo Y (K3.x s0) Y) ?_
 refine C0 K3 Y Y Y agx (Pq _ (K3.a ajZ).any (K3.a aj1).any) fun w4 K4 => ?_
 refine aR Y <| dn <| rg <| ev (Ev.field (q := ⟨g1, 2, none⟩) jc Y Y) <| ev (Ev.aj gV Y (K4.x s1) Y) <| ev (Ev.field (q := ⟨g2, 2, none⟩) jc Y Y) <| ev (Ev.aj gV Y (K4.x s0) Y) ?_
 refine C0 K4 Y Y Y aaH (Ab _ (K4.a aj0).any (K4.a aj2).any) fun w5 K5 => ?_
 refine aR Y <| dn <| rg <| mv Y <| mv Y ?_
 refine WL.dR 2 26 ((decide (a.bU = b.bU)) && (decide (a.bI = b.bI))) ?_ ?_
 ·
  cases OH : decide (a.bU = b.bU) with
  | true =>
   have ZT := of_decide_eq_true OH
   refine WL.bF Y (Ev.move Y) Y <| ev (Ev.bq Y Y) ?_
   exact WL.bM Y
  | false =>
   refine WL.pass Y Y Y <| ev (Ev.bn Y Y) ?_
   exact WL.bM Y
 refine mv Y ?_
 refine WL.dR 2 29 (((decide (a.bU = b.bU)) && (decide (a.bI = b.bI))) && (decide (a.bH = b.bH))) ?_ ?_
 ·
  cases SY : ((decide (a.bU = b.bU)) && (decide (a.bI = b.bI))) with
  | true =>
   have QG := SY
   try simp only [Bool.and_eq_true, Bool.and_eq_false_imp, decide_eq_true_eq, decide_eq_false_iff_not] at QG
   refine WL.bF Y (Ev.move Y) Y <| ev (Ev.bq Y Y) ?_
   exact WL.bM Y
  | false =>
   refine WL.pass Y Y Y <| ev (Ev.bn Y Y) ?_
   exact WL.bM Y
 refine aR Y <| dn ?_
 refine WP.ret (aA.aD Y Y Y ?_)
 have hq1 : ((((decide (a.bU = b.bU)) && (decide (a.bI = b.bI))) && (decide (a.bH = b.bH))) : Bool) = (decide (a = b)) := by obtain ⟨a1, a2, a3⟩ := a; obtain ⟨b1, b2, b3⟩ := b; simp only [ASoft.mk.injEq]; rw [Bool.eq_iff_iff]; simp [and_assoc]
 exact ⟨by rw [hq1] <;> rfl, K5.z⟩
theorem FJ {S0 : Nat → Prop} (w : World) (s : ASoft) {qN : an3} {qO : Nat} (Bv : Sl tBeat S0 w qN qO s.bU) {uQ : an3} {uR : Nat} (Bw : Sl tLease S0 w uQ uR s.bI) {uS : an3} {uT : Nat} (vT : Sl tOrder S0 w uS uT s.bH) (now : Int) (hl : s.bI.length ≤ 100000) (hd : s.bH.length ≤ 100000) :
    bY Tryz.prog 19 #[.agg #[.slice qN s.bU.length qO, .slice uQ s.bI.length uR, .slice uS s.bH.length uT], .int .i64 now] w fun v w' => ∃ (B0_0 : an3) (qG : Nat) (B0_1 : an3) (EP : Nat) (ER : an3) (ES : Nat), v = .agg #[.slice B0_0 (((bD s now).bU).length) qG, .slice B0_1 (((bD s now).bI).length) EP, .slice ER (((bD s now).bH).length) ES] ∧ Hp w S0 w' [fM tBeat B0_0 qG ((bD s now).bU), fM tLease B0_1 EP ((bD s now).bI), fM tOrder ER ES ((bD s now).bH)] := by
 refine WP.enter Tryz.func19 Y Tryz.ntmps19 Y ?_
 have H0 := Hp.init w S0
 have hq := fun k => nX (fun (x9 : AOrder) => !(lX now x9)) s.bH k
 refine rg ?_
 refine bx Y Y H0 fun g1 w1 K1 => ?_
 refine al rR Y K1 fun g2 w2 K2 => ?_
 refine dn <| rg <| ev (Ev.field (q := ⟨g1, 1, none⟩) iV Y Y) <| ev (Ev.aj oo Y (K2.x s1) Y) <| mv Y <| WL.call Y Y Y agy (J3 _ (K2.a Bw).any now (by omega)) Y ?_
 rintro _ w3 ⟨qW, qX, aj3, aj4, rfl, h3⟩
 have K3 := K2.f2 h3
 have Qt := (K3.o s0).aN
 have alx := (K3.o s1).aN
 refine mv Y <| xt Y Y <| xt Y Y <| aR Y <| aR Y <| dn <| rg <| aR Y <| dn <| WP.seq <| rg <| aR Y <| dn <| WP.block ?_
 have H1 := K3.nil tOrder 50
 have hq1 : (([] : List AOrder) : List AOrder) = ((s.bH.take 0).filter (fun (x9 : AOrder) => !(lX now x9))) := by rfl
 refine WP.re (t := 7) Y (congrArg (fun z => Value.slice none (List.length z) 0) hq1) ?_
 have H2 := H1.nil tOrder 50
 have H3 := (hq1 ▸ H2 : Hp w S0 w3 (aQ tOrder 50 none 0 ((s.bH.take 0).filter (fun (x9 : AOrder) => !(lX now x9))) :: [aQ tOrder 50 none 0 [], aQ tLease 77 qW qX (s.bI.filter (sQ now)), aQ tLease 77 aj3 aj4 (s.bI.filter (nH now)), dG g2 31 [.slice none 0 0, .slice none 0 0, .slice none 0 0], dG g1 31 [.slice qN s.bU.length qO, .slice uQ s.bI.length uR, .slice uS s.bH.length uT]]))
 refine Lp ((H3.rm s1).rm s0) (fun l0 rk mJ lJ wJ => ∃ (k : Nat) (A7 : an3) (c7 : Nat), lJ = (7, .slice A7 (((s.bH.take k).filter (fun (x9 : AOrder) => !(lX now x9))).length) c7) :: (8, .int .i64 ((k : Nat) : Int)) :: l0 ∧ mJ = s.bH.length - k ∧ k ≤ s.bH.length ∧ Hp w S0 wJ (aQ tOrder 50 A7 c7 ((s.bH.take k).filter (fun (x9 : AOrder) => !(lX now x9))) :: rk)) ⟨0, none, 0, Y, Y, Nat.zero_le _, (H3.rm s1)⟩ Y ?_
 rintro _ _ w4 ⟨k, A7, c7, rfl, rfl, hk, K4⟩
 refine WP.seq <| rg <| mv Y <| ev (Ev.field (q := ⟨g1, 2, none⟩) jc Y Y) <| ev (Ev.aj gV Y (K4.x s4) Y) <| ev (Ev.len Tryz.underlying29 Y) <| ev (Ev.lss Y Y) <| dn ?_
 refine WP.aG Y (fun iX => ?_) (fun iX => ?_)
 ·
  replace iX := of_decide_eq_true iX
  refine WP.skip (aA.norm ?_)
  refine WP.seq <| WP.block <| rg <| ev (Ev.field (q := ⟨g1, 2, none⟩) jc Y Y) <| ev (Ev.aj gV Y (K4.x s4) Y) <| mv Y ?_
  obtain ⟨x1, hx1⟩ := get_some (xs := s.bH) (i := k) (by omega)
  refine ev (Ev.index (i := k) Tryz.underlying29 gW Y Y Y (aC hx1) ((K4.a vT).some_ hx1)) <| ev (Ev.field Qx Y (bJ _ _ _)) <| ev (Ev.aZ bf Y ((K4.a vT).aX (j := 6) hx1 Y)) ?_
  refine mv Y <| ev (Ev.geq Y Y) <| dn ?_
  refine WP.aG Y (fun sO => ?_) (fun sO => ?_)
  ·
   replace sO := of_decide_eq_true sO
   refine eP <| mv Y <| ev (Ev.field (q := ⟨g1, 2, none⟩) jc Y Y) <| ev (Ev.aj gV Y (K4.x s4) Y) <| mv Y <| ev (Ev.index (i := k) Tryz.underlying29 gW Y Y Y (aC hx1) ((K4.a vT).some_ hx1)) <| ev (Ev.loadRow jV Y Y ((K4.a vT).dx hx1)) ?_
   refine ni (τ := tOrder) (x := x1) Y (by intro _; apply cB) rfl K4 (fun _ _ => rfl) fun g3 w5 K5 => ?_
   refine ap (ys := ([x1] : List AOrder)) K5 s1 Y Y (K5.o s0) Tryz.underlying29 vK (by have := hq k; omega) (by simp) rfl fun jg jh w6 K6 => ?_
   refine aR Y <| eT ?_
   refine aA.aS (aA.norm ?_)
   refine eP <| mv Y <| ev (Ev.add Y Y (eX.mk (by omega) (by omega))) <| aR Y <| eT ?_
   have hq2 : ((((s.bH.take k).filter (fun (x9 : AOrder) => !(lX now x9))) ++ ([x1] : List AOrder)) : List AOrder) = ((s.bH.take (k + 1)).filter (fun (x9 : AOrder) => !(lX now x9))) := by rw [iE hx1]; simp [lX]; omega
   refine aA.re (t := 7) Y (congrArg (fun z => Value.slice jg (List.length z) jh) hq2) ?_
   rw [hq2] at K6
   exact aA.ag ⟨(k + 1), jg, jh, Y, Y, by omega, (K6.rm s1)⟩ rfl (by omega)
  replace sO := of_decide_eq_false sO
  refine WP.skip (aA.aS (aA.norm ?_))
  refine eP <| mv Y <| ev (Ev.add Y Y (eX.mk (by omega) (by omega))) <| aR Y <| eT ?_
  have hq3 : (((s.bH.take k).filter (fun (x9 : AOrder) => !(lX now x9))) : List AOrder) = ((s.bH.take (k + 1)).filter (fun (x9 : AOrder) => !(lX now x9))) := by rw [iE hx1]; simp [lX]; omega
  refine aA.re (t := 7) Y (congrArg (fun z => Value.slice A7 (List.length z) c7) hq3) ?_
  rw [hq3] at K4
  exact aA.ag ⟨(k + 1), A7, c7, Y, Y, by omega, K4⟩ rfl (by omega)
 replace iX := of_decide_eq_false iX
 refine WP.exit (aA.aF (aA.aF (aA.bS (aA.norm ?_))))
 refine rg <| ev (Ev.field (q := ⟨g1, 0, none⟩) qh Y Y) <| ev (Ev.aj zK Y (K4.x s4) Y) <| mv Y <| mv Y <| ev (Ev.build (vs := [(0, .slice qN s.bU.length qO), (1, .slice qW ((s.bI.filter (sQ now)).length) qX), (2, .slice A7 (((s.bH.take k).filter (fun (x9 : AOrder) => !(lX now x9))).length) c7)]) (cs := [.slice qN s.bU.length qO, .slice qW ((s.bI.filter (sQ now)).length) qX, .slice A7 (((s.bH.take k).filter (fun (x9 : AOrder) => !(lX now x9))).length) c7]) Y (by apply wW)) ?_
 refine iW Y Y Y rT K4 s3 Y Y fun w7 K7 => ?_
 refine dn ?_
 refine WP.ret (aA.oG Y ⟨_, _, Y, ⟨_, Y, eH (cs := [.slice qN s.bU.length qO, .slice qW ((s.bI.filter (sQ now)).length) qX, .slice A7 (((s.bH.take k).filter (fun (x9 : AOrder) => !(lX now x9))).length) c7]) kW Y (K7.x s0)⟩, Y⟩ ?_)
 have hq4 : ((⟨s.bU, (s.bI.filter (sQ now)), ((s.bH.take k).filter (fun (x9 : AOrder) => !(lX now x9)))⟩ : ASoft) : ASoft) = (bD s now) := by rw [List.take_of_length_le (by omega)]; rfl
 have H4 := K7.push (K7.a Bv)
 have kP : (s.bU : List ABeat) = ((bD s now).bU) := by rw [← hq4]
 have H5 := H4.fz s3
 have ny : ((s.bI.filter (sQ now)) : List ALease) = ((bD s now).bI) := by rw [← hq4]
 have H6 := H5.fz s3
 have kT : (((s.bH.take k).filter (fun (x9 : AOrder) => !(lX now x9))) : List AOrder) = ((bD s now).bH) := by rw [← hq4]
 exact ⟨qN, qO, qW, qX, A7, c7, by rw [kP, ny, kT] <;> rfl, by rw [← kP, ← ny, ← kT]; exact ((((((H6.rm s5).rm s4).rm s3).sel s0).sel s1).sel s2)⟩
theorem FK {S0 : Nat → Prop} (w : World) {d9 : an3} {eu : Nat} {l : List AChunk} (dN : Sl tChunk S0 w d9 eu l) {l8 : an3} {l9 : Nat} {bN : List AOrder} (kM : Sl tOrder S0 w l8 l9 bN) (hn : l.length ≤ 100000) (hd : bN.length ≤ 100000) (hh : ∀ x ∈ l, x.av.length ≤ 100000) :
    bY Tryz.prog 22 #[.slice d9 l.length eu, .slice l8 bN.length l9] w fun v w' => ∃ (A0 : an3) (c0 : Nat), v = .slice A0 ((iN l bN).length) c0 ∧ Hp w S0 w' [aQ tChunk 53 A0 c0 (iN l bN)] := by
 refine WP.enter Tryz.func22 Y Tryz.ntmps22 Y ?_
 have H0 := Hp.init w S0
 have iJ := dN.aN
 have EO := kM.aN
 refine rg <| aR Y <| dn <| rg <| aR Y <| dn <| WP.seq <| rg <| aR Y <| dn <| WP.block ?_
 have H1 := H0.nil tChunk 53
 have hq1 : (([] : List AChunk) : List AChunk) = (iN (l.take 0) bN) := by rfl
 refine WP.re (t := 5) Y (congrArg (fun z => Value.slice none (List.length z) 0) hq1) ?_
 have H2 := H1.nil tChunk 53
 have H3 := (hq1 ▸ H2 : Hp w S0 w (aQ tChunk 53 none 0 (iN (l.take 0) bN) :: [aQ tChunk 53 none 0 []]))
 refine WP.lp (fun mJ lJ wJ => ∃ (k : Nat) (A5 : an3) (c5 : Nat), lJ = [(0, .slice d9 l.length eu), (1, .slice l8 bN.length l9), (5, .slice A5 ((iN (l.take k) bN).length) c5), (6, .int .i64 ((k : Nat) : Int))] ∧ mJ = l.length - k ∧ k ≤ l.length ∧ Hp w S0 wJ [aQ tChunk 53 A5 c5 (iN (l.take k) bN)]) ⟨0, none, 0, Y, Y, Nat.zero_le _, (H3.rm s1)⟩ Y ?_
 rintro _ _ w1 ⟨k, A5, c5, rfl, rfl, hk, K1⟩
 refine WP.seq <| rg <| mv Y <| mv Y <| ev (Ev.len Tryz.underlying23 Y) <| ev (Ev.lss Y Y) <| dn ?_
 refine WP.aG Y (fun kr => ?_) (fun kr => ?_)
 ·
  replace kr := of_decide_eq_true kr
  refine WP.skip (aA.norm ?_)
  refine WP.seq <| WP.block <| rg <| mv Y <| mv Y ?_
  obtain ⟨x1, hx1⟩ := get_some (xs := l) (i := k) (by omega)
  refine ev (Ev.index (i := k) Tryz.underlying23 gu Y Y Y (aC hx1) ((K1.a dN).some_ hx1)) ?_
  obtain ⟨B1, d1, kL, hi1⟩ := AChunk.op (dN.row hx1)
  refine ev (Ev.loadRow (cs := [.int .i64 x1.ID, .int .i64 x1.ay, .int .u32 x1.Sum, .slice B1 x1.av.length d1]) gQ Y Y (oJ (fun j u hu => K1.ext.cell (kL j u hu)))) ?_
  refine al iI Y K1 fun g1 w2 K2 => ?_
  refine iW Y Y Y gu K2 s0 Y Y fun w3 K3 => ?_
  refine dn ?_
  have hhx := hh _ (bV hx1)
  refine rg <| mv Y <| ev (Ev.field (q := ⟨g1, 0, none⟩) gI Y Y) <| ev (Ev.aj bf Y (K3.x s0) Y) <| WL.call Y Y Y aaI (FH _ (K3.a kM).any x1.ID (by omega)) Y ?_
  rintro _ w4 ⟨sG, sH, rfl, h4⟩
  have K4 := K3.f1 h4
  have GX := (K4.o s0).aN
  refine aR Y <| dn <| WP.seq <| rg <| aR Y <| dn <| WP.block ?_
  have H4 := K4.push (K4.a hi1)
  have hq2 : (x1.av : List Int) = (jO x1 ((dI bN x1.ID).take 0)).av := by rw [List.take_zero, Aa]
  rw [hq2] at H4
  have hq3 : (.int .i64 x1.ID : Value) = .int .i64 ((jO x1 ((dI bN x1.ID).take 0)).ID) := by first | rfl | (rw [List.take_zero, Aa])
  try rw [hq3] at H4
  have hq4 : (.int .i64 x1.ay : Value) = .int .i64 ((jO x1 ((dI bN x1.ID).take 0)).ay) := by first | rfl | (rw [List.take_zero, Aa])
  try rw [hq4] at H4
  have kP : (.int .u32 x1.Sum : Value) = .int .u32 ((jO x1 ((dI bN x1.ID).take 0)).Sum) := by first | rfl | (rw [List.take_zero, Aa])
  try rw [kP] at H4
  have ny : (.slice B1 x1.av.length d1 : Value) = .slice B1 (((jO x1 ((dI bN x1.ID).take 0)).av).length) d1 := by first | rfl | (rw [List.take_zero, Aa])
  try rw [ny] at H4
  refine WP.lp (fun mJ lJ wJ => ∃ (k2 : Nat) (B7 : an3) (d7 : Nat), lJ = [(0, .slice d9 l.length eu), (1, .slice l8 bN.length l9), (5, .slice A5 ((iN (l.take k) bN).length) c5), (6, .int .i64 ((k : Nat) : Int)), (7, .pointer (some ⟨g1, 0, none⟩)), (8, .slice sG ((dI bN x1.ID).length) sH), (9, .int .i64 ((k2 : Nat) : Int))] ∧ mJ = (dI bN x1.ID).length - k2 ∧ k2 ≤ (dI bN x1.ID).length ∧ Hp w S0 wJ [fM tInt B7 d7 ((jO x1 ((dI bN x1.ID).take k2)).av), dG g1 53 [.int .i64 ((jO x1 ((dI bN x1.ID).take k2)).ID), .int .i64 ((jO x1 ((dI bN x1.ID).take k2)).ay), .int .u32 ((jO x1 ((dI bN x1.ID).take k2)).Sum), .slice B7 (((jO x1 ((dI bN x1.ID).take k2)).av).length) d7], aQ tInt 3 sG sH (dI bN x1.ID), aQ tChunk 53 A5 c5 (iN (l.take k) bN)]) ⟨0, B1, d1, Y, Y, Nat.zero_le _, (((H4.sel s1).sel s2).sel s2)⟩ Y ?_
  rintro _ _ w5 ⟨k2, B7, d7, rfl, rfl, hk2, K5⟩
  refine WP.seq <| rg <| mv Y <| mv Y <| ev (Ev.len Tryz.underlying51 Y) <| ev (Ev.lss Y Y) <| dn ?_
  refine WP.aG Y (fun hc27 => ?_) (fun hc27 => ?_)
  ·
   replace hc27 := of_decide_eq_true hc27
   refine WP.skip (aA.norm ?_)
   refine WP.seq <| WP.block ?_
   obtain ⟨x2, hx2⟩ := get_some (xs := dI bN x1.ID) (i := k2) (by omega)
   refine Hf K5 (fun _ K => (K.rm s1)) (fun l0 rk lJ wJ => ∃ (jw : an3) (jy : Nat), lJ = l0 ∧ Hp w S0 wJ (dG g1 53 [.int .i64 (({ (jO x1 ((dI bN x1.ID).take k2)) with av := (jO x1 ((dI bN x1.ID).take k2)).av.filter fun (id : Int) => !decide (id = x2) } : AChunk).ID), .int .i64 (({ (jO x1 ((dI bN x1.ID).take k2)) with av := (jO x1 ((dI bN x1.ID).take k2)).av.filter fun (id : Int) => !decide (id = x2) } : AChunk).ay), .int .u32 (({ (jO x1 ((dI bN x1.ID).take k2)) with av := (jO x1 ((dI bN x1.ID).take k2)).av.filter fun (id : Int) => !decide (id = x2) } : AChunk).Sum), .slice jw ((({ (jO x1 ((dI bN x1.ID).take k2)) with av := (jO x1 ((dI bN x1.ID).take k2)).av.filter fun (id : Int) => !decide (id = x2) } : AChunk).av).length) jy] :: fM tInt jw jy (({ (jO x1 ((dI bN x1.ID).take k2)) with av := (jO x1 ((dI bN x1.ID).take k2)).av.filter fun (id : Int) => !decide (id = x2) } : AChunk).av) :: rk)) (fun hns H5 => ?_) ?_
   ·
    have k1 := (H5.rm s1)
    refine Tm 1 2 hns Y Y k1 <| Tm 2 6 hns Y Y k1 <| Tn 3 14 hns Y (fun _ hK => Ev.index (i := k2) Tryz.underlying51 iC Y Y Y (aC hx2) ((hK.o s1).some_ hx2)) k1 ?_
    refine Tn 4 30 hns Y (fun _ hK => Ev.aZ bf Y ((hK.o s1).aX (j := 0) hx2 Y)) k1 <| O1 0 Y <| ev (Ev.bX gQ Y Y (H5.x s1)) <| WH.next k1 ?_
    refine O1 5 Y <| WL.call Y Y Y agz (Gl _ (jO x1 ((dI bN x1.ID).take k2)) (H5.s s0) x2 (Nat.le_trans (Zm _ _) hhx)) Y ?_
    rintro _ w6 ⟨WW, WX, rfl, h6⟩
    have K6 := H5.c1 h6
    have UJ := (K6.s s0).aN
    have k2 := ((K6.rm s2).rm s0)
    refine WH.next k2 <| O1 6 Y ?_
    refine iW Y Y Y gu K6 s2 Y Y fun w7 K7 => ?_
    have k3 := ((K7.rm s1).rm s0)
    refine WH.next k3 ?_
    exact Dn ⟨WW, WX, Y, K7⟩ Y
   rintro _ w8 ⟨jw, jy, rfl, K8⟩
   refine aA.aS (aA.norm ?_)
   refine eP <| mv Y <| ev (Ev.add Y Y (eX.mk (by omega) (by omega))) <| aR Y <| eT ?_
   have kT : (({ (jO x1 ((dI bN x1.ID).take k2)) with av := (jO x1 ((dI bN x1.ID).take k2)).av.filter fun (id : Int) => !decide (id = x2) } : AChunk).av : List Int) = (jO x1 ((dI bN x1.ID).take (k2 + 1))).av := by exact xA hx2
   rw [kT] at K8
   have hq8 : (.int .i64 (({ (jO x1 ((dI bN x1.ID).take k2)) with av := (jO x1 ((dI bN x1.ID).take k2)).av.filter fun (id : Int) => !decide (id = x2) } : AChunk).ID) : Value) = .int .i64 ((jO x1 ((dI bN x1.ID).take (k2 + 1))).ID) := by first | rfl | (rw [← xA hx2])
   try rw [hq8] at K8
   have uj : (.int .i64 (({ (jO x1 ((dI bN x1.ID).take k2)) with av := (jO x1 ((dI bN x1.ID).take k2)).av.filter fun (id : Int) => !decide (id = x2) } : AChunk).ay) : Value) = .int .i64 ((jO x1 ((dI bN x1.ID).take (k2 + 1))).ay) := by first | rfl | (rw [← xA hx2])
   try rw [uj] at K8
   have jK : (.int .u32 (({ (jO x1 ((dI bN x1.ID).take k2)) with av := (jO x1 ((dI bN x1.ID).take k2)).av.filter fun (id : Int) => !decide (id = x2) } : AChunk).Sum) : Value) = .int .u32 ((jO x1 ((dI bN x1.ID).take (k2 + 1))).Sum) := by first | rfl | (rw [← xA hx2])
   try rw [jK] at K8
   have hq11 : (.slice jw ((({ (jO x1 ((dI bN x1.ID).take k2)) with av := (jO x1 ((dI bN x1.ID).take k2)).av.filter fun (id : Int) => !decide (id = x2) } : AChunk).av).length) jy : Value) = .slice jw (((jO x1 ((dI bN x1.ID).take (k2 + 1))).av).length) jy := by first | rfl | (rw [← xA hx2])
   try rw [hq11] at K8
   exact aA.ag ⟨(k2 + 1), jw, jy, Y, Y, by omega, (((K8.rm s2).sel s0).sel s1)⟩ rfl (by omega)
  replace hc27 := of_decide_eq_false hc27
  refine WP.exit (aA.aF (aA.aF (aA.bS (aA.norm ?_))))
  refine eP <| mv Y <| ev (Ev.bX gQ Y Y (K5.x s1)) ?_
  refine ni (τ := tChunk) (x := (jO x1 ((dI bN x1.ID).take k2))) Y (by intro _; apply vv) rfl K5 (fun _ e => ⟨_, _, rfl, (K5.s s0).ext e⟩) fun g2 w9 K9 => ?_
  have H6 := K9.fz s0
  refine apd (ys := ([(jO x1 ((dI bN x1.ID).take k2))] : List AChunk)) H6 s4 Y Y (H6.s s0) Tryz.underlying23 Zz (by rw [qz, List.length_take]; omega) (by simp) rfl fun jg jh J8 K10 => ?_
  refine aR Y <| eT ?_
  refine aA.aS (aA.norm ?_)
  refine eP <| mv Y <| ev (Ev.add Y Y (eX.mk (by omega) (by omega))) <| aR Y <| eT ?_
  have hq12 : (((iN (l.take k) bN) ++ ([(jO x1 ((dI bN x1.ID).take k2))] : List AChunk)) : List AChunk) = (iN (l.take (k + 1)) bN) := by rw [List.take_of_length_le (show (dI bN x1.ID).length ≤ k2 by omega)]; exact TJ hx1
  refine aA.re (t := 5) Y (congrArg (fun z => Value.slice jg (List.length z) jh) hq12) ?_
  rw [hq12] at K10
  exact aA.ag ⟨(k + 1), jg, jh, Y, Y, by omega, ((((K10.rm s4).rm s3).rm s2).rm s1)⟩ rfl (by omega)
 replace kr := of_decide_eq_false kr
 refine WP.exit (aA.aF (aA.aF (aA.bS (aA.norm ?_))))
 refine rg <| mv Y <| aR Y <| dn ?_
 refine WP.ret (aA.aD Y Y Y ?_)
 have qY : ((iN (l.take k) bN) : List AChunk) = (iN l bN) := by rw [List.take_of_length_le (by omega)]
 rw [qY] at K1
 exact ⟨A5, c5, by rw [qY] <;> rfl, K1⟩
end Go.Proofs.YtjcklpooaaaglaaGreat
set_option maxRecDepth 4000
set_option linter.all false
namespace Go.Proofs.YtjcklpooaaaglaaGreat
open Go.RowKit
theorem jN : dL Tryz.prog 87 1 3 := fun _ _ => by kernel_rfl
theorem Ac : dL Tryz.prog 87 0 0 := fun _ _ => by kernel_rfl
theorem adF : aM Tryz.prog 155 := fun _ _ => by kernel_rfl
theorem adG : aM Tryz.prog 156 := fun _ _ => by kernel_rfl
theorem QY : dL Tryz.prog 87 3 12 := fun _ _ => by kernel_rfl
theorem vE : dL Tryz.prog 87 2 6 := fun _ _ => by kernel_rfl
theorem adH : aM Tryz.prog 106 := fun _ _ => by kernel_rfl
theorem vF : dL Tryz.prog 87 5 14 := fun _ _ => by kernel_rfl
theorem QZ : aM Tryz.prog 49 := fun _ _ => by kernel_rfl
theorem aaJ : aM Tryz.prog 95 := fun _ _ => by kernel_rfl
theorem xZ : dL Tryz.prog 87 4 13 := fun _ _ => by kernel_rfl
theorem aaK : aM Tryz.prog 97 := fun _ _ => by kernel_rfl
theorem agJ : aM Tryz.prog 96 := fun _ _ => by kernel_rfl
theorem agK : aM Tryz.prog 98 := fun _ _ => by kernel_rfl
theorem aaL : aM Tryz.prog 50 := fun _ _ => by kernel_rfl
theorem NA {b w : World} {S : Nat → Prop} {F : List jP} {g : Nat} {v0 v1 v2 v3 v5 v6 v7 v8 v9 v10 v11 v12 v13 v14 v15 : Value} {AL : an3} {cL : Nat} {ls : List ALease}  (H0 : Hp b S w (dG g 87 [v0, v1, v2, v3, .slice AL ls.length cL, v5, v6, v7, v8, v9, v10, v11, v12, v13, v14, v15] :: fM tLease AL cL ls :: F)) (hl : ls.length ≤ 1000) (dJ : Int) :
    bY Tryz.prog 95 #[.pointer (some ⟨g, 0, none⟩), .int .i64 dJ] w fun v w' => ∃ A c, v = .slice A (dO ls dJ).length c ∧ Hp b S w' (aQ tInt 3 A c (dO ls dJ) :: dG g 87 [v0, v1, v2, v3, .slice AL ls.length cL, v5, v6, v7, v8, v9, v10, v11, v12, v13, v14, v15] :: fM tLease AL cL ls :: F) := by
 refine WP.enter Tryz.func95 Y Tryz.ntmps95 Y ?_
 have hq := fun k => nX (fun (x : ALease) => decide (x.aB = dJ)) ls k
 refine rg <| aR Y <| dn <| rg <| aR Y <| dn <| WP.seq <| rg <| aR Y <| dn <| WP.block ?_
 have H1 := H0.nil tInt 3
 have hq1 : (([] : List Int) : List Int) = (((ls.take 0).filter (fun (x : ALease) => decide (x.aB = dJ))).map ALease.To) := by rfl
 refine WP.re (t := 5) Y (congrArg (fun z => Value.slice none (List.length z) 0) hq1) ?_
 have H2 := H1.nil tInt 3
 have H3 := (hq1 ▸ H2 : Hp b S w (aQ tInt 3 none 0 (((ls.take 0).filter (fun (x : ALease) => decide (x.aB = dJ))).map ALease.To) :: (aQ tInt 3 none 0 [] :: dG g 87 [v0, v1, v2, v3, .slice AL ls.length cL, v5, v6, v7, v8, v9, v10, v11, v12, v13, v14, v15] :: fM tLease AL cL ls :: F)))
 refine Lp ((H3.rm s1).rm s0) (fun l0 rk mJ lJ wJ => ∃ (k : Nat) (A5 : an3) (c5 : Nat), lJ = (5, .slice A5 ((((ls.take k).filter (fun (x : ALease) => decide (x.aB = dJ))).map ALease.To).length) c5) :: (6, .int .i64 ((k : Nat) : Int)) :: l0 ∧ mJ = ls.length - k ∧ k ≤ ls.length ∧ Hp b S wJ (aQ tInt 3 A5 c5 (((ls.take k).filter (fun (x : ALease) => decide (x.aB = dJ))).map ALease.To) :: rk)) ⟨0, none, 0, Y, Y, Nat.zero_le _, (H3.rm s1)⟩ Y ?_
 rintro _ _ w1 ⟨k, A5, c5, rfl, rfl, hk, K1⟩
 refine WP.seq <| rg <| mv Y <| mv Y <| ev (Ev.nilCheck Y) <| ev (Ev.field (q := ⟨g, 3, none⟩) jN Y Y) <| ev (Ev.field (q := ⟨g, 4, none⟩) iV Y Y) <| ev (Ev.aj oo Y (K1.x s1) Y) <| ev (Ev.len Tryz.underlying28 Y) <| ev (Ev.lss Y Y) <| dn ?_
 refine WP.aG Y (fun fE => ?_) (fun fE => ?_)
 ·
  replace fE := of_decide_eq_true fE
  refine WP.skip (aA.norm ?_)
  refine WP.seq <| WP.block <| rg <| mv Y <| ev (Ev.nilCheck Y) <| ev (Ev.field (q := ⟨g, 3, none⟩) jN Y Y) <| ev (Ev.field (q := ⟨g, 4, none⟩) iV Y Y) <| ev (Ev.aj oo Y (K1.x s1) Y) <| mv Y ?_
  obtain ⟨x1, hx1⟩ := get_some (xs := ls) (i := k) (by omega)
  refine ev (Ev.index (i := k) Tryz.underlying28 lu Y Y Y (aC hx1) ((K1.s s2).some_ hx1)) <| ev (Ev.field rM Y (bJ _ _ _)) <| ev (Ev.aZ bf Y ((K1.s s2).aX (j := 0) hx1 Y)) ?_
  refine mv Y <| ev (Ev.eql Y Y) <| dn ?_
  refine WP.aG Y (fun hc27 => ?_) (fun hc27 => ?_)
  ·
   replace hc27 := of_decide_eq_true hc27
   refine eP <| mv Y <| mv Y <| ev (Ev.nilCheck Y) <| ev (Ev.field (q := ⟨g, 3, none⟩) jN Y Y) <| ev (Ev.field (q := ⟨g, 4, none⟩) iV Y Y) <| ev (Ev.aj oo Y (K1.x s1) Y) <| mv Y <| ev (Ev.index (i := k) Tryz.underlying28 lu Y Y Y (aC hx1) ((K1.s s2).some_ hx1)) <| ev (Ev.field jl Y (bJ _ _ _)) <| ev (Ev.aZ bf Y ((K1.s s2).aX (j := 3) hx1 Y)) ?_
   refine ni (τ := tInt) (x := x1.To) Y (by intro _; apply jk) rfl K1 (fun _ _ => rfl) fun g1 w2 K2 => ?_
   refine ap (ys := ([x1.To] : List Int)) K2 s1 Y Y (K2.o s0) Tryz.underlying51 uF (by have := hq k; simp only [List.length_map]; omega) (by simp) rfl fun jg jh w3 K3 => ?_
   refine aR Y <| eT ?_
   refine aA.aS (aA.norm ?_)
   refine eP <| mv Y <| ev (Ev.add Y Y (eX.mk (by omega) (by omega))) <| aR Y <| eT ?_
   have hq2 : (((((ls.take k).filter (fun (x : ALease) => decide (x.aB = dJ))).map ALease.To) ++ ([x1.To] : List Int)) : List Int) = (((ls.take (k + 1)).filter (fun (x : ALease) => decide (x.aB = dJ))).map ALease.To) := by rw [fQ hx1]; simp [hc27]
   refine aA.re (t := 5) Y (congrArg (fun z => Value.slice jg (List.length z) jh) hq2) ?_
   rw [hq2] at K3
   exact aA.ag ⟨(k + 1), jg, jh, Y, Y, by omega, (K3.rm s1)⟩ rfl (by omega)
  replace hc27 := of_decide_eq_false hc27
  refine WP.skip (aA.aS (aA.norm ?_))
  refine eP <| mv Y <| ev (Ev.add Y Y (eX.mk (by omega) (by omega))) <| aR Y <| eT ?_
  have hq3 : ((((ls.take k).filter (fun (x : ALease) => decide (x.aB = dJ))).map ALease.To) : List Int) = (((ls.take (k + 1)).filter (fun (x : ALease) => decide (x.aB = dJ))).map ALease.To) := by rw [fQ hx1]; simp [hc27]
  refine aA.re (t := 5) Y (congrArg (fun z => Value.slice A5 (List.length z) c5) hq3) ?_
  rw [hq3] at K1
  exact aA.ag ⟨(k + 1), A5, c5, Y, Y, by omega, K1⟩ rfl (by omega)
 replace fE := of_decide_eq_false fE
 refine WP.exit (aA.aF (aA.aF (aA.bS (aA.norm ?_))))
 refine rg <| mv Y <| aR Y <| dn ?_
 refine WP.ret (aA.aD Y Y Y ?_)
 have hfx : (((ls.take k).filter (fun (x : ALease) => decide (x.aB = dJ))).map ALease.To) = (dO ls dJ) := by rw [List.take_of_length_le (by omega)]; rfl
 rw [hfx] at K1
 exact ⟨_, _, by rw [hfx] <;> rfl, K1⟩
theorem Iz {b w : World} {S : Nat → Prop} {F : List jP} {g : Nat} {v2 v3 v5 v6 v7 v8 v9 v10 v11 v12 v13 v14 v15 : Value} {AL : an3} {cL : Nat} {ls : List ALease} {AN : an3} {cN : Nat} {ns : List ANode} {AK : an3} {cK : Nat} {ks : List AChunk}  (H0 : Hp b S w (dG g 87 [.slice AN ns.length cN, .slice AK ks.length cK, v2, v3, .slice AL ls.length cL, v5, v6, v7, v8, v9, v10, v11, v12, v13, v14, v15] :: fM tLease AL cL ls :: fM tNode AN cN ns :: fM tChunk AK cK ks :: F)) (hl : ls.length ≤ 1000) (hn : ns.length ≤ 1000) (hc : ks.length ≤ 1000) :
    bY Tryz.prog 97 #[.pointer (some ⟨g, 0, none⟩)] w fun v w' => ∃ A c, v = .slice A (aO ks ns ls).length c ∧ Hp b S w' (aQ fO 173 A c (aO ks ns ls) :: dG g 87 [.slice AN ns.length cN, .slice AK ks.length cK, v2, v3, .slice AL ls.length cL, v5, v6, v7, v8, v9, v10, v11, v12, v13, v14, v15] :: fM tLease AL cL ls :: fM tNode AN cN ns :: fM tChunk AK cK ks :: F) := by
 refine WP.enter Tryz.func97 Y Tryz.ntmps97 Y <| rg <| aR Y <| dn ?_
 refine He H0 (fun _ K => K) (fun l0 rk lJ wJ => ∃ (jw : an3) (jy : Nat), lJ = (3, .slice jw ((iU ks ns).length) jy) :: l0 ∧ Hp b S wJ (aQ fO 173 jw jy (iU ks ns) :: rk)) (fun hns H1 => ?_) ?_
 ·
  refine Tm 0 1 hns Y Y H1 <| Tn 1 3 hns Y (fun _ _ => Ev.nilCheck Y) H1 <| Tn 2 7 hns Y (fun _ _ => Ev.field (q := ⟨g, 0, none⟩) Ac Y Y) H1 ?_
  refine Tn 3 15 hns Y (fun _ _ => Ev.field (q := ⟨g, 1, none⟩) mg Y Y) H1 <| Tn 4 31 hns Y (fun _ hK => Ev.aj nM Y (hK.x s0) Y) H1 ?_
  refine Tm 5 63 hns Y Y H1 <| Tn 6 127 hns Y (fun _ _ => Ev.nilCheck Y) H1 <| Tn 7 255 hns Y (fun _ _ => Ev.field (q := ⟨g, 0, none⟩) Ac Y Y) H1 ?_
  refine Tn 8 511 hns Y (fun _ _ => Ev.field (q := ⟨g, 0, none⟩) oq Y Y) H1 <| Tn 9 1023 hns Y (fun _ hK => Ev.aj lS Y (hK.x s0) Y) H1 ?_
  refine O1 10 Y <| WL.call Y Y Y adF (Nl _ (H1.s s3).any (H1.s s2).any (by omega)) Y ?_
  rintro _ w1 ⟨mQ, mR, rfl, h1⟩
  have K1 := H1.f1 h1
  have Eu := (K1.o s0).aN
  have k1 := (K1.rm s0)
  refine WH.next k1 <| Ta 11 4095 hns Y Y k1 ?_
  exact Dn ⟨mQ, mR, Y, K1⟩ Y
 rintro _ w2 ⟨jw, jy, rfl, K2⟩
 refine WP.seq <| rg <| aR Y <| dn <| WP.block ?_
 have hq1 : (iU ks ns : List bP) = (aO ks ns (ls.take 0)) := by rfl
 refine WP.re (t := 3) Y (congrArg (fun z => Value.slice jw (List.length z) jy) hq1) ?_
 rw [hq1] at K2
 refine Lp (K2.rm s0) (fun l0 rk mJ lJ wJ => ∃ (k : Nat) (A3 : an3) (c3 : Nat), lJ = (3, .slice A3 ((aO ks ns (ls.take k)).length) c3) :: (4, .int .i64 ((k : Nat) : Int)) :: l0 ∧ mJ = ls.length - k ∧ k ≤ ls.length ∧ Hp b S wJ (aQ fO 173 A3 c3 (aO ks ns (ls.take k)) :: rk)) ⟨0, jw, jy, Y, Y, Nat.zero_le _, K2⟩ Y ?_
 rintro _ _ w3 ⟨k, A3, c3, rfl, rfl, hk, K3⟩
 refine WP.seq <| rg <| mv Y <| mv Y <| ev (Ev.nilCheck Y) <| ev (Ev.field (q := ⟨g, 3, none⟩) jN Y Y) <| ev (Ev.field (q := ⟨g, 4, none⟩) iV Y Y) <| ev (Ev.aj oo Y (K3.x s1) Y) <| ev (Ev.len Tryz.underlying28 Y) <| ev (Ev.lss Y Y) <| dn ?_
 refine WP.aG Y (fun jS => ?_) (fun jS => ?_)
 ·
  replace jS := of_decide_eq_true jS
  refine WP.skip (aA.norm ?_)
  refine WP.seq <| WP.block ?_
  obtain ⟨x1, hx1⟩ := get_some (xs := ls) (i := k) (by omega)
  have hgb := xR ks ns (ls.take k)
  simp only [List.length_take] at hgb
  have hpb : 0 ≤ fJ (aO ks ns (ls.take k)) x1.To ∧ fJ (aO ks ns (ls.take k)) x1.To ≤ 2000 := Jk (P := fun z => 0 ≤ z ∧ z ≤ 2000) (by omega) (fun x hx => by have := hgb.1 x hx; omega) _
  refine eP <| mv Y <| mv Y <| ev (Ev.nilCheck Y) <| ev (Ev.field (q := ⟨g, 3, none⟩) jN Y Y) <| ev (Ev.field (q := ⟨g, 4, none⟩) iV Y Y) <| ev (Ev.aj oo Y (K3.x s1) Y) <| mv Y <| ev (Ev.index (i := k) Tryz.underlying28 lu Y Y Y (aC hx1) ((K3.s s2).some_ hx1)) <| ev (Ev.field jl Y (bJ _ _ _)) <| ev (Ev.aZ bf Y ((K3.s s2).aX (j := 3) hx1 Y)) <| WL.call Y Y Y adG (Pm _ (K3.o s0) x1.To (by have := hgb.2; omega) (by omega)) rfl ?_
  rintro _ w4 ⟨sG, sH, rfl, h4⟩
  have K4 := K3.f1 h4
  have GX := (K4.o s0).aN
  refine aR Y <| eT ?_
  refine aA.aS (aA.norm ?_)
  refine eP <| mv Y <| ev (Ev.add Y Y (eX.mk (by omega) (by omega))) <| aR Y <| eT ?_
  have hq2 : (((⟨x1.To, fJ (aO ks ns (ls.take k)) x1.To + 1⟩ : bP) :: (aO ks ns (ls.take k))) : List bP) = (aO ks ns (ls.take (k + 1))) := by rw [BZ hx1]; rfl
  refine aA.re (t := 3) Y (congrArg (fun z => Value.slice sG (List.length z) sH) hq2) ?_
  rw [hq2] at K4
  exact aA.ag ⟨(k + 1), sG, sH, Y, Y, by omega, (K4.rm s1)⟩ rfl (by omega)
 replace jS := of_decide_eq_false jS
 refine WP.exit (aA.aF (aA.aF (aA.bS (aA.norm ?_))))
 refine rg <| mv Y <| aR Y <| dn ?_
 refine WP.ret (aA.aD Y Y Y ?_)
 have hfx : (aO ks ns (ls.take k)) = (aO ks ns ls) := by rw [List.take_of_length_le (by omega)]
 rw [hfx] at K3
 exact ⟨_, _, by rw [hfx] <;> rfl, K3⟩
set_option maxHeartbeats 1000000 in
theorem NC {b w : World} {S : Nat → Prop} {F : List jP} {g : Nat} {v0 v1 v2 v3 v5 v6 v9 v11 v13 v15 : Value} {AL : an3} {cL : Nat} {ls : List ALease} {AO : an3} {cO : Nat} {os : List AOrder} {bg all aY now : Int} {Bc : an3} {dc : Nat} (H0 : Hp b S w (dG g 87 [v0, v1, v2, v3, .slice AL ls.length cL, v5, v6, .int .i64 bg, .int .i64 all, v9, .int .i64 aY, v11, .int .i64 now, v13, .slice AO os.length cO, v15] :: fM tLease AL cL ls :: aQ tOrder 50 AO cO os :: F)) (c : AChunk) (fr dM : Int) (hn : ls.length ≤ 1000) (ho : os.length ≤ 100000) (hu : -1099511627776 ≤ now ∧ now ≤ 4398046511104 ∧ -1099511627776 ≤ aY ∧ aY ≤ 1099511627776) :
    bY Tryz.prog 50 #[.pointer (some ⟨g, 0, none⟩), .agg #[.int .i64 c.ID, .int .i64 c.ay, .int .u32 c.Sum, .slice Bc c.av.length dc], .int .i64 fr, .int .i64 dM] w fun v w' => v = .bool (rV ls bg all c fr dM (now + aY)) ∧ ∃ QC QD Hy Hz, Hp b S w' (dG g 87 [v0, v1, v2, v3, .slice QC ((kG ls bg all c fr dM (now + aY)).length) QD, v5, v6, .int .i64 bg, .int .i64 all, v9, .int .i64 aY, v11, .int .i64 now, v13, .slice Hy ((mY ls os bg all c fr dM (now + aY)).length) Hz, v15] :: fM tLease QC QD (kG ls bg all c fr dM (now + aY)) :: aQ tOrder 50 Hy Hz (mY ls os bg all c fr dM (now + aY)) :: F) := by
 refine WP.enter Tryz.func50 Y Tryz.ntmps50 Y <| rg ?_
 refine bx Y Y H0 fun g1 w1 K1 => ?_
 refine aR Y <| dn ?_
 refine He K1 (fun _ K => K) (fun l0 rk lJ wJ => ∃ (iZ : Nat), lJ = (9, .pointer (some ⟨iZ, 0, none⟩)) :: l0 ∧ Hp b S wJ (dG iZ 77 [.int .i64 c.ID, .int .i64 c.ay, .int .i64 fr, .int .i64 dM, .int .i64 (now + aY)] :: rk)) (fun hns H1 => ?_) ?_
 ·
  refine Tn 0 1 hns Y (fun _ _ => Ev.field (q := ⟨g1, 0, none⟩) gI Y Y) H1 <| Tn 1 3 hns Y (fun _ hK => Ev.aj bf Y (hK.x s0) Y) H1 <| Tn 2 7 hns Y (fun _ _ => Ev.field (q := ⟨g1, 1, none⟩) kZ Y Y) H1 ?_
  refine Tn 3 15 hns Y (fun _ hK => Ev.aj bf Y (hK.x s0) Y) H1 <| Tm 4 31 hns Y Y H1 <| Tm 5 63 hns Y Y H1 <| Tm 6 127 hns Y Y H1 <| Tn 7 255 hns Y (fun _ _ => Ev.nilCheck Y) H1 <| Tn 8 511 hns Y (fun _ _ => Ev.field (q := ⟨g, 12, none⟩) QY Y Y) H1 <| Tn 9 1023 hns Y (fun _ hK => Ev.aj bf Y (hK.x s1) Y) H1 <| Tm 10 2047 hns Y Y H1 <| Tn 11 4095 hns Y (fun _ _ => Ev.nilCheck Y) H1 <| Tn 12 8191 hns Y (fun _ _ => Ev.field (q := ⟨g, 6, none⟩) vE Y Y) H1 <| Tn 13 16383 hns Y (fun _ _ => Ev.field (q := ⟨g, 10, none⟩) xP Y Y) H1 <| Tn 14 32767 hns Y (fun _ hK => Ev.aj bf Y (hK.x s1) Y) H1 <| Tn 15 65535 hns Y (fun _ _ => Ev.add Y Y (eX.mk (by omega) (by omega))) H1 <| Tn 16 131071 hns Y (fun _ _ => Ev.build (vs := [(0, .int .i64 c.ID), (1, .int .i64 c.ay), (2, .int .i64 fr), (3, .int .i64 dM), (4, .int .i64 (now + aY))]) (cs := [.int .i64 c.ID, .int .i64 c.ay, .int .i64 fr, .int .i64 dM, .int .i64 (now + aY)]) Y (by apply pq)) H1 ?_
  refine O1 17 Y ?_
  refine al zB Y H1 fun g2 w2 K2 => ?_
  have k1 := (K2.rm s0)
  refine WH.next k1 <| O1 18 Y ?_
  refine iW Y Y Y lu K2 s0 Y Y fun w3 K3 => ?_
  have k2 := (K3.rm s0)
  refine WH.next k2 ?_
  exact Dn ⟨g2, Y, K3⟩ Y
 rintro _ w4 ⟨iZ, rfl, K4⟩
 refine He K4 (fun _ K => K) (fun l0 rk lJ wJ => ∃ (jw : an3) (jy : Nat), lJ = (10, .slice jw ((gB ls (⟨c.ID, c.ay, fr, dM, now + aY⟩ : ALease) bg all).length) jy) :: (11, .int .i64 (gH ls (⟨c.ID, c.ay, fr, dM, now + aY⟩ : ALease) bg all)) :: l0 ∧ Hp b S wJ (aQ tLease 77 jw jy (gB ls (⟨c.ID, c.ay, fr, dM, now + aY⟩ : ALease) bg all) :: rk)) (fun hns H2 => ?_) ?_
 ·
  refine Tm 0 1 hns Y Y H2 <| Tn 1 3 hns Y (fun _ _ => Ev.nilCheck Y) H2 <| Tn 2 7 hns Y (fun _ _ => Ev.field (q := ⟨g, 3, none⟩) jN Y Y) H2 ?_
  refine Tn 3 15 hns Y (fun _ _ => Ev.field (q := ⟨g, 4, none⟩) iV Y Y) H2 <| Tn 4 31 hns Y (fun _ hK => Ev.aj oo Y (hK.x s2) Y) H2 ?_
  refine Tn 5 63 hns Y (fun _ hK => Ev.bX pK Y Y (hK.x s0)) H2 <| Tm 6 127 hns Y Y H2 <| Tn 7 255 hns Y (fun _ _ => Ev.nilCheck Y) H2 <| Tn 8 511 hns Y (fun _ _ => Ev.field (q := ⟨g, 6, none⟩) vE Y Y) H2 ?_
  refine Tn 9 1023 hns Y (fun _ _ => Ev.field (q := ⟨g, 7, none⟩) xQ Y Y) H2 <| Tn 10 2047 hns Y (fun _ hK => Ev.aj bf Y (hK.x s2) Y) H2 ?_
  refine Tm 11 4095 hns Y Y H2 <| Tn 12 8191 hns Y (fun _ _ => Ev.nilCheck Y) H2 <| Tn 13 16383 hns Y (fun _ _ => Ev.field (q := ⟨g, 6, none⟩) vE Y Y) H2 ?_
  refine Tn 14 32767 hns Y (fun _ _ => Ev.field (q := ⟨g, 8, none⟩) Db Y Y) H2 <| Tn 15 65535 hns Y (fun _ hK => Ev.aj bf Y (hK.x s2) Y) H2 ?_
  refine O1 16 Y <| WL.call Y Y Y adH (Nv _ (H2.s s3).any (⟨c.ID, c.ay, fr, dM, now + aY⟩ : ALease) bg all (by omega)) Y ?_
  rintro _ w5 ⟨zu, zw, rfl, h5⟩
  have K5 := H2.f1 h5
  have U2 := (K5.o s0).aN
  have k3 := (K5.rm s0)
  refine WH.next k3 <| Tm 17 262143 hns Y Y k3 <| Tn 18 524287 hns Y (fun _ _ => Ev.extract (vs := [.slice zu ((gB ls (⟨c.ID, c.ay, fr, dM, now + aY⟩ : ALease) bg all).length) zw, .int .i64 (gH ls (⟨c.ID, c.ay, fr, dM, now + aY⟩ : ALease) bg all)]) Y Y) k3 ?_
  refine Tn 19 1048575 hns Y (fun _ _ => Ev.extract (vs := [.slice zu ((gB ls (⟨c.ID, c.ay, fr, dM, now + aY⟩ : ALease) bg all).length) zw, .int .i64 (gH ls (⟨c.ID, c.ay, fr, dM, now + aY⟩ : ALease) bg all)]) Y Y) k3 ?_
  refine Ta 20 2097151 hns Y Y k3 <| Ta 21 4194303 hns Y Y k3 ?_
  exact Dn ⟨zu, zw, Y, K5⟩ Y
 rintro _ w6 ⟨jw, jy, rfl, K6⟩
 refine WP.seq <| rg <| mv Y <| ev (Ev.neq Y Y) <| dn ?_
 refine WP.aG Y (fun tX => ?_) (fun tX => ?_)
 ·
  replace tX := gJ tX
  refine rg <| aR Y <| dn ?_
  refine WP.ret (aA.aP (aA.aD Y Y Y ?_))
  have hcn := QA (c := c) (fr := fr) (dM := dM) (u := now + aY) tX
  exact ⟨by rw [hcn.1]; rfl, _, _, _, _, by rw [hcn.2.1, hcn.2.2 os]; exact (((K6.rm s2).rm s1).rm s0)⟩
 replace tX := gD tX
 refine WP.skip (aA.norm ?_)
 refine rg <| mv Y <| mv Y <| ev (Ev.nilCheck Y) <| ev (Ev.field (q := ⟨g, 3, none⟩) jN Y Y) <| ev (Ev.field (q := ⟨g, 4, none⟩) iV Y Y) ?_
 refine BK Y Y Y V5 K6 s3 Y fun w7 K7 => ?_
 refine dn ?_
 refine He K7 (fun _ K => ((K.rm s5).rm s0)) (fun l0 rk lJ wJ => ∃ (o9 : an3) (cj2 : Nat), lJ = l0 ∧ Hp b S wJ (dG g 87 [v0, v1, v2, v3, .slice jw ((gB ls (⟨c.ID, c.ay, fr, dM, now + aY⟩ : ALease) bg all).length) jy, v5, v6, .int .i64 bg, .int .i64 all, v9, .int .i64 aY, v11, .int .i64 now, v13, .slice o9 ((os ++ ([(⟨0, c.ID, c.ay, c.Sum, fr, dM, now + aY⟩ : AOrder)] : List AOrder)).length) cj2, v15] :: aQ tOrder 50 o9 cj2 (os ++ ([(⟨0, c.ID, c.ay, c.Sum, fr, dM, now + aY⟩ : AOrder)] : List AOrder)) :: rk)) (fun hns H3 => ?_) ?_
 ·
  have k4 := ((H3.rm s5).rm s0)
  refine Tm 0 1 hns Y Y k4 <| Tm 1 3 hns Y Y k4 <| Tn 2 7 hns Y (fun _ _ => Ev.nilCheck Y) k4 <| Tn 3 15 hns Y (fun _ _ => Ev.field (q := ⟨g, 14, none⟩) vF Y Y) k4 ?_
  refine Tn 5 47 hns Y (fun _ _ => Ev.field (q := ⟨g1, 0, none⟩) gI Y Y) k4 <| Tn 6 111 hns Y (fun _ hK => Ev.aj bf Y (hK.x s2) Y) k4 ?_
  refine Tn 7 239 hns Y (fun _ _ => Ev.field (q := ⟨g1, 1, none⟩) kZ Y Y) k4 <| Tn 8 495 hns Y (fun _ hK => Ev.aj bf Y (hK.x s2) Y) k4 ?_
  refine Tn 9 1007 hns Y (fun _ _ => Ev.field (q := ⟨g1, 2, none⟩) rH Y Y) k4 <| Tn 10 2031 hns Y (fun _ hK => Ev.aj BP Y (hK.x s2) Y) k4 ?_
  refine Tm 11 4079 hns Y Y k4 <| Tm 12 8175 hns Y Y k4 <| Tn 13 16367 hns Y (fun _ _ => Ev.field (q := ⟨iZ, 4, none⟩) uK Y Y) k4 <| Tn 14 32751 hns Y (fun _ hK => Ev.aj bf Y (hK.x s1) Y) k4 ?_
  refine Tn 15 65519 hns Y (fun _ _ => Ev.build (vs := [(0, .int .i64 0), (1, .int .i64 c.ID), (2, .int .i64 c.ay), (3, .int .u32 c.Sum), (4, .int .i64 fr), (5, .int .i64 dM), (6, .int .i64 (now + aY))]) (cs := [.int .i64 0, .int .i64 c.ID, .int .i64 c.ay, .int .u32 c.Sum, .int .i64 fr, .int .i64 dM, .int .i64 (now + aY)]) Y (by apply iO)) k4 ?_
  refine Jn H3 (fun l0 rk lJ wJ => ∃ (g3 : Nat), lJ = (60, .slice AO os.length cO) :: (72, .slice (some ⟨g3, 0, none⟩) (([(⟨0, c.ID, c.ay, c.Sum, fr, dM, now + aY⟩ : AOrder)] : List AOrder).length) 1) :: l0 ∧ Hp b S wJ (aQ tOrder 50 (some ⟨g3, 0, none⟩) 1 ([(⟨0, c.ID, c.ay, c.Sum, fr, dM, now + aY⟩ : AOrder)] : List AOrder) :: rk)) 4 131071 ?_ fun hS1 => ?_
  ·
   rintro _ Le ⟨g3, rfl, oH⟩
   refine O1 17 Y ?_
   refine ap (ys := ([(⟨0, c.ID, c.ay, c.Sum, fr, dM, now + aY⟩ : AOrder)] : List AOrder)) oH s6 Y Y (oH.o s0) Tryz.underlying29 vK (by first | omega | (simp; omega) | (simp; done)) (by simp) rfl fun G5 cp2 RY sP => ?_
   have k9 := (((sP.rm s2).rm s1).rm s0)
   refine WH.next k9 <| Tn 18 524287 hns Y (fun _ _ => Ev.nilCheck Y) k9 <| Tn 19 1048575 hns Y (fun _ _ => Ev.field (q := ⟨g, 14, none⟩) vF Y Y) k9 ?_
   refine O1 20 Y ?_
   refine BK Y Y Y EM sP s2 Y fun RZ nO => ?_
   have k10 := (((nO.rm s2).rm s1).rm s0)
   refine WH.next k10 ?_
   exact Dn ⟨G5, cp2, Y, (nO.rm s2)⟩ Y
  refine O2 4 16 Y Y ?_ ?_
  ·
   refine ev (Ev.aj gV Y (H3.x s0) Y) <| WH.next k4 <| O1 16 Y ?_
   refine ni (τ := tOrder) (x := (⟨0, c.ID, c.ay, c.Sum, fr, dM, now + aY⟩ : AOrder)) Y (by intro _; apply cB) rfl H3 (fun _ _ => rfl) fun g5 TM vW => ?_
   have k11 := (((vW.rm s6).rm s1).rm s0)
   exact Kj hS1 k11 ⟨g5, Y, vW⟩ Y
  ·
   refine ni (τ := tOrder) (x := (⟨0, c.ID, c.ay, c.Sum, fr, dM, now + aY⟩ : AOrder)) Y (by intro _; apply cB) rfl H3 (fun _ _ => rfl) fun g6 w16 tQ => ?_
   have k12 := (((tQ.rm s6).rm s1).rm s0)
   refine WH.next k12 <| O1 4 Y <| ev (Ev.aj gV Y (tQ.x s1) Y) ?_
   exact Kj hS1 k12 ⟨g6, Y, tQ⟩ Y
 rintro _ Vh ⟨o9, cj2, rfl, qp⟩
 refine rg <| aR Y <| dn ?_
 refine WP.ret (aA.aD Y Y Y ?_)
 have H4 := qp.fz s2
 have hcy := MH (c := c) (fr := fr) (dM := dM) (u := now + aY) tX
 exact ⟨by rw [hcy.1]; rfl, _, _, _, _, by rw [hcy.2.1, hcy.2.2 os]; exact (((((H4.rm s5).rm s4).rm s3).sel s0).sel s1)⟩
set_option maxHeartbeats 4000000 in
theorem Zo {b w : World} {S : Nat → Prop} {F : List jP} {g : Nat} {v2 v3 v6 v11 v15 : Value} {AL : an3} {cL : Nat} {ls : List ALease} {AO : an3} {cO : Nat} {os : List AOrder} {AD : an3} {cD : Nat} {ds : List AOrder} {AN : an3} {cN : Nat} {ns : List ANode} {AK : an3} {cK : Nat} {ks : List AChunk} {AV : an3} {cV : Nat} {ah : List Int} {bg all aJ aY now : Int} {AS : an3} {cS : Nat} {aW : List AChunk} (H0 : Hp b S w (dG g 87 [.slice AN ns.length cN, .slice AK ks.length cK, v2, v3, .slice AL ls.length cL, .slice AD ds.length cD, v6, .int .i64 bg, .int .i64 all, .int .i64 aJ, .int .i64 aY, v11, .int .i64 now, .slice AV ah.length cV, .slice AO os.length cO, v15] :: fM tLease AL cL ls :: aQ tOrder 50 AO cO os :: fM tOrder AD cD ds :: fM tNode AN cN ns :: fM tChunk AK cK ks :: fM tInt AV cV ah :: fM tChunk AS cS aW :: F)) (n : bK) (hl : ls.length ≤ 64) (hd : ds.length ≤ 100000) (ho : os.length ≤ 1000) (hn : ns.length ≤ 1000) (hc : ks.length ≤ 1000) (hkk : ∀ x ∈ ks, x.av.length ≤ 1000) (hh : ∀ x ∈ aW, x.av.length ≤ 1000) (he : 0 ≤ bg ∧ bg ≤ 64 ∧ all ≤ 64 ∧ aJ ≤ 8) (hq : 0 ≤ n.Have ∧ n.Have ≤ 1000) (hu : -1099511627776 ≤ now ∧ now ≤ 4398046511104 ∧ -1099511627776 ≤ aY ∧ aY ≤ 1099511627776) :
    bY Tryz.prog 46 #[.pointer (some ⟨g, 0, none⟩), .agg #[.int .i64 n.aB, .int .i64 n.Have, .int .i64 n.Live], .slice AS aW.length cS] w fun v w' => v = .tuple #[] ∧ ∃ QC QD Hy Hz, Hp b S w' (dG g 87 [.slice AN ns.length cN, .slice AK ks.length cK, v2, v3, .slice QC (((uY (⟨ds, ns, ks, ah, aW, bg, all, aJ, now + aY⟩ : fF) (ls, os) n).1).length) QD, .slice AD ds.length cD, v6, .int .i64 bg, .int .i64 all, .int .i64 aJ, .int .i64 aY, v11, .int .i64 now, .slice AV ah.length cV, .slice Hy (((uY (⟨ds, ns, ks, ah, aW, bg, all, aJ, now + aY⟩ : fF) (ls, os) n).2).length) Hz, v15] :: fM tLease QC QD ((uY (⟨ds, ns, ks, ah, aW, bg, all, aJ, now + aY⟩ : fF) (ls, os) n).1) :: aQ tOrder 50 Hy Hz ((uY (⟨ds, ns, ks, ah, aW, bg, all, aJ, now + aY⟩ : fF) (ls, os) n).2) :: fM tOrder AD cD ds :: fM tNode AN cN ns :: fM tChunk AK cK ks :: fM tInt AV cV ah :: fM tChunk AS cS aW :: F) := by
 refine WP.enter Tryz.func46 Y Tryz.ntmps46 Y <| rg ?_
 refine bx Y Y H0 fun g1 w1 K1 => ?_
 refine dn ?_
 refine He K1 (fun _ K => K) (fun l0 rk lJ wJ => ∃ (iZ : Nat) (jw : an3) (jy : Nat), lJ = (6, .pointer (some ⟨iZ, 0, none⟩)) :: l0 ∧ Hp b S wJ (dG iZ 53 [.int .i64 ((aL ks n.aB).ID), .int .i64 ((aL ks n.aB).ay), .int .u32 ((aL ks n.aB).Sum), .slice jw (((aL ks n.aB).av).length) jy] :: fM tInt jw jy ((aL ks n.aB).av) :: rk)) (fun hns H1 => ?_) ?_
 ·
  refine Tm 0 1 hns Y Y H1 <| Tn 1 3 hns Y (fun _ _ => Ev.nilCheck Y) H1 <| Tn 2 7 hns Y (fun _ _ => Ev.field (q := ⟨g, 0, none⟩) Ac Y Y) H1 ?_
  refine Tn 3 15 hns Y (fun _ _ => Ev.field (q := ⟨g, 1, none⟩) mg Y Y) H1 <| Tn 4 31 hns Y (fun _ hK => Ev.aj nM Y (hK.x s1) Y) H1 ?_
  refine Tn 5 63 hns Y (fun _ _ => Ev.field (q := ⟨g1, 0, none⟩) rP Y Y) H1 <| Tn 6 127 hns Y (fun _ hK => Ev.aj bf Y (hK.x s0) Y) H1 ?_
  refine Jn H1 (fun l0 rk lJ wJ => ∃ (g2 : Nat) (J5 : an3) (J6 : Nat), lJ = (6, .pointer (some ⟨g2, 0, none⟩)) :: (27, .bool (gG ks n.aB)) :: l0 ∧ Hp b S wJ (dG g2 53 [.int .i64 ((aL ks n.aB).ID), .int .i64 ((aL ks n.aB).ay), .int .u32 ((aL ks n.aB).Sum), .slice J5 (((aL ks n.aB).av).length) J6] :: fM tInt J5 J6 ((aL ks n.aB).av) :: rk)) 1 8191 ?_ fun hS1 => ?_
  ·
   rintro _ w8 ⟨g2, J5, J6, rfl, K8⟩
   have k6 := ((K8.rm s1).rm s0)
   refine Ta 13 16383 hns Y Y k6 ?_
   exact Dn ⟨g2, J5, J6, Y, K8⟩ Y
  refine O2 7 11 Y Y ?_ ?_
  ·
   refine WL.call Y Y Y QZ (vw _ (H1.s s6) n.aB) Y ?_
   rintro _ w9 ⟨PG, PI, rfl, h9⟩
   have K9 := H1.c1 h9
   have afL := (K9.s s0).aN
   have k7 := (K9.rm s0)
   refine WH.next k7 <| Tm 8 511 hns Y Y k7 <| Tn 9 1023 hns Y (fun _ _ => Ev.extract (vs := [.agg #[.int .i64 ((aL ks n.aB).ID), .int .i64 ((aL ks n.aB).ay), .int .u32 ((aL ks n.aB).Sum), .slice PG (((aL ks n.aB).av).length) PI], .bool (gG ks n.aB)]) Y Y) k7 ?_
   refine Tn 10 2047 hns Y (fun _ _ => Ev.extract (vs := [.agg #[.int .i64 ((aL ks n.aB).ID), .int .i64 ((aL ks n.aB).ay), .int .u32 ((aL ks n.aB).Sum), .slice PG (((aL ks n.aB).av).length) PI], .bool (gG ks n.aB)]) Y Y) k7 ?_
   refine O1 11 Y ?_
   refine al iI Y K9 fun g4 J8 K10 => ?_
   have k8 := ((K10.rm s1).rm s0)
   refine WH.next k8 <| O1 12 Y ?_
   refine iW Y Y Y gu K10 s0 Y Y fun Om qb => ?_
   have k9 := ((qb.rm s1).rm s0)
   exact Kj hS1 k9 ⟨g4, PG, PI, Y, qb⟩ Y
  ·
   refine al iI Y H1 fun g5 Le oH => ?_
   have k10 := (oH.rm s0)
   refine WH.next k10 <| O1 7 Y <| WL.call Y Y Y QZ (vw _ (oH.s s7) n.aB) Y ?_
   rintro _ RY ⟨vg, vk, rfl, h13⟩
   have sP := oH.c1 h13
   have acT := (sP.s s0).aN
   have k11 := ((sP.rm s1).rm s0)
   refine WH.next k11 <| Tm 8 2559 hns Y Y k11 <| Tn 9 3071 hns Y (fun _ _ => Ev.extract (vs := [.agg #[.int .i64 ((aL ks n.aB).ID), .int .i64 ((aL ks n.aB).ay), .int .u32 ((aL ks n.aB).Sum), .slice vg (((aL ks n.aB).av).length) vk], .bool (gG ks n.aB)]) Y Y) k11 ?_
   refine Tn 10 4095 hns Y (fun _ _ => Ev.extract (vs := [.agg #[.int .i64 ((aL ks n.aB).ID), .int .i64 ((aL ks n.aB).ay), .int .u32 ((aL ks n.aB).Sum), .slice vg (((aL ks n.aB).av).length) vk], .bool (gG ks n.aB)]) Y Y) k11 ?_
   refine O1 12 Y ?_
   refine iW Y Y Y gu sP s1 Y Y fun RZ nO => ?_
   have k12 := ((nO.rm s1).rm s0)
   exact Kj hS1 k12 ⟨g5, vg, vk, Y, nO⟩ Y
 rintro _ TM ⟨iZ, jw, jy, rfl, vW⟩
 refine rg <| mv Y <| ev (Ev.field (q := ⟨g1, 0, none⟩) rP Y Y) <| ev (Ev.aj bf Y (vW.x s2) Y) <| WL.call Y Y Y QZ (vw _ (vW.s s10) n.aB) Y ?_
 rintro _ w16 ⟨uZ, u6, rfl, h16⟩
 have tQ := vW.c1 h16
 have JA := (tQ.s s0).aN
 refine mv Y <| xt Y Y <| xt Y Y ?_
 refine al iI Y tQ fun g6 Vh qp => ?_
 refine iW Y Y Y gu qp s0 Y Y fun Yb vX => ?_
 refine aR Y <| dn <| WP.block <| WP.lp (fun mJ lJ wJ => ∃ (A4 : an3) (c4 : Nat) (IB : an3) (c14 : Nat) (l : List ALease) (o : List AOrder) (f : Nat), lJ = [(0, .pointer (some ⟨g, 0, none⟩)), (4, .pointer (some ⟨g1, 0, none⟩)), (6, .pointer (some ⟨iZ, 0, none⟩)), (8, .pointer (some ⟨g6, 0, none⟩))] ∧ mJ = f + 1 ∧ (o.length + ls.length = os.length + l.length ∧ l.length ≤ 64) ∧ (EY (⟨ds, ns, ks, ah, aW, bg, all, aJ, now + aY⟩ : fF) (aL ks n.aB) (aL aW n.aB) n.Have f (l, o) = (uY (⟨ds, ns, ks, ah, aW, bg, all, aJ, now + aY⟩ : fF) (ls, os) n)) ∧ (aJ - n.Have - ((dO l (aL ks n.aB).ID).length : Int) < (f : Int)) ∧ Hp b S wJ (fM tLease A4 c4 l :: aQ tOrder 50 IB c14 o :: dG g 87 [.slice AN ns.length cN, .slice AK ks.length cK, v2, v3, .slice A4 l.length c4, .slice AD ds.length cD, v6, .int .i64 bg, .int .i64 all, .int .i64 aJ, .int .i64 aY, v11, .int .i64 now, .slice AV ah.length cV, .slice IB o.length c14, v15] :: dG g6 53 [.int .i64 ((aL aW n.aB).ID), .int .i64 ((aL aW n.aB).ay), .int .u32 ((aL aW n.aB).Sum), .slice uZ (((aL aW n.aB).av).length) u6] :: fM tInt uZ u6 ((aL aW n.aB).av) :: dG iZ 53 [.int .i64 ((aL ks n.aB).ID), .int .i64 ((aL ks n.aB).ay), .int .u32 ((aL ks n.aB).Sum), .slice jw (((aL ks n.aB).av).length) jy] :: fM tInt jw jy ((aL ks n.aB).av) :: dG g1 90 [.int .i64 n.aB, .int .i64 n.Have, .int .i64 n.Live] :: fM tOrder AD cD ds :: fM tNode AN cN ns :: fM tChunk AK cK ks :: fM tInt AV cV ah :: fM tChunk AS cS aW :: F)) ⟨AL, cL, AO, cO, ls, os, 100, Y, Y, by exact ⟨rfl, hl⟩, by rfl, by omega, ((((((((vX.sel s4).sel s4).sel s4).sel s4).sel s4).sel s5).sel s7).sel s7)⟩ rfl ?_
 rintro _ _ ZJ ⟨A4, c4, IB, c14, l, o, f, rfl, rfl, hlo, hrep, hff, zy⟩
 refine WP.block ?_
 have hcl := wS l (aL ks n.aB).ID
 have hgl := Hq ds (aL ks n.aB).ID
 have aiZ := xV hkk n.aB
 have ai0 := xV hh n.aB
 refine rg <| mv Y <| ev (Ev.field (q := ⟨iZ, 0, none⟩) gI Y Y) <| ev (Ev.aj bf Y (zy.x s5) Y) <| WL.call Y Y Y aaJ (NA (((zy.sel s1).sel s1).sel s2) (by omega) ((aL ks n.aB).ID)) Y ?_
 rintro _ ZK ⟨Ac1, cc1, rfl, vG⟩
 refine aR Y <| dn <| WP.seq <| WP.draw (by kernel_rfl) (by kernel_rfl) <| WQ.ev (Ev.field (q := ⟨g1, 1, none⟩) oW Y Y) Y <| WQ.ev (Ev.aj bf Y (vG.x s8) Y) Y <| WQ.ev (Ev.move Y) Y <| WQ.ev (Ev.len Tryz.underlying51 Y) Y <| WQ.ev (Ev.add Y Y (eX.mk (by omega) (by omega))) Y <| WQ.ev (Ev.move Y) Y <| WQ.ev (Ev.nilCheck Y) Y <| WQ.ev (Ev.field (q := ⟨g, 6, none⟩) vE Y Y) Y <| WQ.ev (Ev.field (q := ⟨g, 9, none⟩) rQ Y Y) Y <| WQ.ev (Ev.aj bf Y (vG.x s1) Y) Y ?_
 refine WQ.ev (Ev.geq Y Y) Y ?_
 refine WQ.done fun YR e21 => ?_
 have sJ := vG.grow e21
 refine WP.aG Y (fun Ez => ?_) (fun Ez => ?_)
 ·
  replace Ez := of_decide_eq_true Ez
  refine WP.ret (aA.aP (aA.bW (aA.aP (aA.bW (aA.aD Y Y Y ?_)))))
  have hnx : (uY (⟨ds, ns, ks, ah, aW, bg, all, aJ, now + aY⟩ : fF) (ls, os) n) = (l, o) := by rw [← hrep]; exact oO (x := (⟨ds, ns, ks, ah, aW, bg, all, aJ, now + aY⟩ : fF)) (by rintro ⟨h1, _⟩; replace h1 : n.Have + ((dO l (aL ks n.aB).ID).length : Int) < aJ := h1; omega) f
  exact ⟨Y, _, _, _, _, by rw [hnx]; exact ((((((sJ.rm s8).rm s7).rm s6).rm s5).rm s4).rm s0)⟩
 replace Ez := of_decide_eq_false Ez
 refine WP.skip (aA.norm ?_)
 refine rg <| ev (Ev.field (q := ⟨iZ, 3, none⟩) fT Y Y) <| ev (Ev.aj gK Y (sJ.x s6) Y) ?_
 have H2 := sJ.nil tInt 3
 refine ap (ys := (aL ks n.aB).av) H2 s0 Y Y (H2.s s8).any Tryz.underlying51 uF (by simp) (by omega) Y fun jg jh ZL yO => ?_
 refine aR Y <| dn <| rg <| mv Y <| mv Y ?_
 refine ap (ys := (dO l ((aL ks n.aB).ID))) yO s0 Y Y (yO.o s1) Tryz.underlying51 uF (by simp only [List.length_append, List.length_nil]; omega) (by omega) rfl fun G5 cp2 w23 Ag => ?_
 refine aR Y <| dn ?_
 refine He Ag (fun _ K => (K.rm s0)) (fun l0 rk lJ wJ => ∃ (o9 : an3) (cj2 : Nat), lJ = (11, .slice o9 ((((([] : List Int) ++ (aL ks n.aB).av) ++ (dO l ((aL ks n.aB).ID))) ++ dI ds ((aL ks n.aB).ID)).length) cj2) :: l0 ∧ Hp b S wJ (aQ tInt 3 o9 cj2 (((([] : List Int) ++ (aL ks n.aB).av) ++ (dO l ((aL ks n.aB).ID))) ++ dI ds ((aL ks n.aB).ID)) :: rk)) (fun hns H3 => ?_) ?_
 ·
  have k13 := (H3.rm s0)
  refine Tm 0 1 hns Y Y k13 <| Tm 1 3 hns Y Y k13 <| Tn 2 7 hns Y (fun _ _ => Ev.nilCheck Y) k13 <| Tn 3 15 hns Y (fun _ _ => Ev.field (q := ⟨g, 3, none⟩) jN Y Y) k13 ?_
  refine Tn 4 31 hns Y (fun _ _ => Ev.field (q := ⟨g, 5, none⟩) jc Y Y) k13 <| Tn 5 63 hns Y (fun _ hK => Ev.aj gV Y (hK.x s1) Y) k13 ?_
  refine Tn 6 127 hns Y (fun _ _ => Ev.field (q := ⟨iZ, 0, none⟩) gI Y Y) k13 <| Tn 7 255 hns Y (fun _ hK => Ev.aj bf Y (hK.x s6) Y) k13 ?_
  refine O1 8 Y <| WL.call Y Y Y aaI (FH _ (H3.s s10).any ((aL ks n.aB).ID) (by omega)) Y ?_
  rintro _ w24 ⟨ZW, ZX, rfl, h24⟩
  have yt := H3.f1 h24
  have acD := (yt.o s0).aN
  have k14 := ((yt.rm s1).rm s0)
  refine WH.next k14 <| O1 9 Y ?_
  refine ap (ys := dI ds ((aL ks n.aB).ID)) yt s1 Y Y (yt.o s0) Tryz.underlying51 uF (by simp only [List.length_append, List.length_nil]; omega) (by omega) rfl fun Ap3 cp3 w25 yC => ?_
  have k15 := ((yC.rm s1).rm s0)
  refine WH.next k15 <| Ta 10 2047 hns Y Y k15 ?_
  exact Dn ⟨Ap3, cp3, Y, (yC.rm s1)⟩ Y
 rintro _ w26 ⟨o9, cj2, rfl, y8⟩
 refine He y8 (fun _ K => K) (fun l0 rk lJ wJ => lJ = (12, .int .i64 (vR (lG ns ah (aO ks ns l) (((([] : List Int) ++ (aL ks n.aB).av) ++ (dO l ((aL ks n.aB).ID))) ++ dI ds ((aL ks n.aB).ID)) ns))) :: (13, .bool ((lG ns ah (aO ks ns l) (((([] : List Int) ++ (aL ks n.aB).av) ++ (dO l ((aL ks n.aB).ID))) ++ dI ds ((aL ks n.aB).ID)) ns).isSome)) :: l0 ∧ Hp b S wJ rk) (fun hns H4 => ?_) ?_
 ·
  refine Tm 0 1 hns Y Y H4 <| Tn 1 3 hns Y (fun _ _ => Ev.nilCheck Y) H4 <| Tn 2 7 hns Y (fun _ _ => Ev.field (q := ⟨g, 0, none⟩) Ac Y Y) H4 ?_
  refine Tn 3 15 hns Y (fun _ _ => Ev.field (q := ⟨g, 0, none⟩) oq Y Y) H4 <| Tn 4 31 hns Y (fun _ hK => Ev.aj lS Y (hK.x s2) Y) H4 ?_
  refine Tm 5 63 hns Y Y H4 <| Tn 6 127 hns Y (fun _ _ => Ev.nilCheck Y) H4 <| Tn 7 255 hns Y (fun _ _ => Ev.field (q := ⟨g, 13, none⟩) xZ Y Y) H4 ?_
  refine Tn 8 511 hns Y (fun _ hK => Ev.aj gK Y (hK.x s2) Y) H4 <| Tm 9 1023 hns Y Y H4 <| Tm 11 3071 hns Y Y H4 <| O1 10 Y <| WL.call Y Y Y aaK (Iz (((((((((((((H4.sel s10).sel s10).sel s10).sel s10).sel s10).sel s10).sel s10).sel s8).sel s8).sel s12).sel s12).sel s12).sel s12) (by omega) (by omega) (by omega)) Y ?_
  rintro _ w27 ⟨Ad1, cd1, rfl, zA⟩
  have k16 := ((((((((((((((zA.rm s0).sel s3).sel s3).sel s12).sel s12).sel s12).sel s12).sel s12).sel s12).sel s12).sel s10).sel s10).sel s12).sel s12)
  refine WH.next k16 <| O1 12 Y ?_
  refine C0 zA Y Y Y agJ (JW _ (zA.s s3).any (zA.s NM).any (zA.o s0) (zA.o s5) (fun x hx => ((xR _ _ _).1 x hx).1)) fun ZM yP => ?_
  have k17 := ((((((((((((((yP.rm s0).sel s3).sel s3).sel s12).sel s12).sel s12).sel s12).sel s12).sel s12).sel s12).sel s10).sel s10).sel s12).sel s12)
  refine WH.next k17 <| Tm 13 16383 hns Y Y k17 <| Tn 14 32767 hns Y (fun _ _ => Ev.extract (vs := [.int .i64 (vR (lG ns ah (aO ks ns l) (((([] : List Int) ++ (aL ks n.aB).av) ++ (dO l ((aL ks n.aB).ID))) ++ dI ds ((aL ks n.aB).ID)) ns)), .bool ((lG ns ah (aO ks ns l) (((([] : List Int) ++ (aL ks n.aB).av) ++ (dO l ((aL ks n.aB).ID))) ++ dI ds ((aL ks n.aB).ID)) ns).isSome)]) Y Y) k17 ?_
  refine Tn 15 65535 hns Y (fun _ _ => Ev.extract (vs := [.int .i64 (vR (lG ns ah (aO ks ns l) (((([] : List Int) ++ (aL ks n.aB).av) ++ (dO l ((aL ks n.aB).ID))) ++ dI ds ((aL ks n.aB).ID)) ns)), .bool ((lG ns ah (aO ks ns l) (((([] : List Int) ++ (aL ks n.aB).av) ++ (dO l ((aL ks n.aB).ID))) ++ dI ds ((aL ks n.aB).ID)) ns).isSome)]) Y Y) k17 ?_
  refine Ta 16 131071 hns Y Y k17 <| Ta 17 262143 hns Y Y k17 ?_
  exact Dn ⟨Y, ((((((((((((((yP.rm s0).sel s3).sel s3).sel s12).sel s12).sel s12).sel s12).sel s12).sel s12).sel s12).sel s10).sel s10).sel s12).sel s12)⟩ Y
 rintro _ ZN ⟨rfl, Bd⟩
 have hto : (lG ns ah (aO ks ns l) (((([] : List Int) ++ (aL ks n.aB).av) ++ (dO l ((aL ks n.aB).ID))) ++ dI ds ((aL ks n.aB).ID)) ns) = (lY (⟨ds, ns, ks, ah, aW, bg, all, aJ, now + aY⟩ : fF) (aL ks n.aB) l) := by unfold lY; rw [← XW]; rfl
 refine WP.re (t := 12) Y (congrArg (fun z => Value.int .i64 (vR z)) hto) <| WP.re (t := 13) Y (congrArg (fun (z : Option ANode) => Value.bool z.isSome) hto) ?_
 refine He Bd (fun _ K => K) (fun l0 rk lJ wJ => lJ = (14, .int .i64 (lV l (gL (aL aW n.aB) ah) bg)) :: (15, .bool (lq l (gL (aL aW n.aB) ah) bg)) :: l0 ∧ Hp b S wJ rk) (fun hns H5 => ?_) ?_
 ·
  refine Tm 0 1 hns Y Y H5 <| Tn 1 3 hns Y (fun _ _ => Ev.nilCheck Y) H5 <| Tn 2 7 hns Y (fun _ _ => Ev.field (q := ⟨g, 3, none⟩) jN Y Y) H5 ?_
  refine Tn 3 15 hns Y (fun _ _ => Ev.field (q := ⟨g, 4, none⟩) iV Y Y) H5 <| Tn 4 31 hns Y (fun _ hK => Ev.aj oo Y (hK.x s2) Y) H5 ?_
  refine Tn 5 63 hns Y (fun _ hK => Ev.bX gQ Y Y (hK.x s5)) H5 <| Tm 6 127 hns Y Y H5 <| Tn 7 255 hns Y (fun _ _ => Ev.nilCheck Y) H5 <| Tn 8 511 hns Y (fun _ _ => Ev.field (q := ⟨g, 13, none⟩) xZ Y Y) H5 ?_
  refine Tn 9 1023 hns Y (fun _ hK => Ev.aj gK Y (hK.x s2) Y) H5 <| Tm 11 3071 hns Y Y H5 <| Tn 12 7167 hns Y (fun _ _ => Ev.nilCheck Y) H5 ?_
  refine Tn 13 15359 hns Y (fun _ _ => Ev.field (q := ⟨g, 6, none⟩) vE Y Y) H5 <| Tn 14 31743 hns Y (fun _ _ => Ev.field (q := ⟨g, 7, none⟩) xQ Y Y) H5 ?_
  refine Tn 15 64511 hns Y (fun _ hK => Ev.aj bf Y (hK.x s2) Y) H5 <| O1 10 Y <| WL.call Y Y Y Ir (mD _ (aL aW n.aB) (H5.s s6).any (H5.s s13).any (by omega)) Y ?_
  rintro _ w30 ⟨aly, alz, rfl, h30⟩
  have Ah := H5.f1 h30
  have acO := (Ah.o s0).aN
  have k18 := (Ah.rm s0)
  refine WH.next k18 <| O1 16 Y ?_
  refine C0 Ah Y Y Y agK (Po _ (Ah.s s4).any (Ah.o s0) bg) fun w31 F4 => ?_
  have k19 := (F4.rm s0)
  refine WH.next k19 <| Tm 17 262143 hns Y Y k19 <| Tn 18 524287 hns Y (fun _ _ => Ev.extract (vs := [.int .i64 (lV l (gL (aL aW n.aB) ah) bg), .bool (lq l (gL (aL aW n.aB) ah) bg)]) Y Y) k19 ?_
  refine Tn 19 1048575 hns Y (fun _ _ => Ev.extract (vs := [.int .i64 (lV l (gL (aL aW n.aB) ah) bg), .bool (lq l (gL (aL aW n.aB) ah) bg)]) Y Y) k19 ?_
  refine Ta 20 2097151 hns Y Y k19 <| Ta 21 4194303 hns Y Y k19 ?_
  exact Dn ⟨Y, (F4.rm s0)⟩ Y
 rintro _ w32 ⟨rfl, FM⟩
 refine WP.seq ?_
 have hlv : gL (aL aW n.aB) ah = sN ah (aL aW n.aB) := (Pz _ _).symm
 refine WP.re (t := 14) Y (congrArg (fun (z : List Int) => Value.int .i64 (lV l z bg)) hlv) <| WP.re (t := 15) Y (congrArg (fun (z : List Int) => Value.bool (lq l z bg)) hlv) ?_
 refine rg <| mv Y <| ev (Ev.not Y) <| mv Y ?_
 refine WL.dR 3 107 ((!((lY (⟨ds, ns, ks, ah, aW, bg, all, aJ, now + aY⟩ : fF) (aL ks n.aB) l).isSome)) || (!(lq l (sN ah (aL aW n.aB)) bg))) ?_ ?_
 ·
  cases alA : (!((lY (⟨ds, ns, ks, ah, aW, bg, all, aJ, now + aY⟩ : fF) (aL ks n.aB) l).isSome)) with
  | true =>
   refine WL.pass Y Y Y <| WL.pass Y Y Y <| ev (Ev.bq Y Y) ?_
   exact WL.bM Y
  | false =>
   refine WL.bF Y (Ev.move Y) Y <| WL.bF Y (Ev.not Y) Y <| ev (Ev.bn Y Y) ?_
   exact WL.bM Y
 refine dn ?_
 refine WP.aG Y (fun XZ => ?_) (fun XZ => ?_)
 ·
  refine WP.ret (aA.aP (aA.bW (aA.aP (aA.bW (aA.aD Y Y Y ?_)))))
  have hnx : (uY (⟨ds, ns, ks, ah, aW, bg, all, aJ, now + aY⟩ : fF) (ls, os) n) = (l, o) := by rw [← hrep]; exact oO (x := (⟨ds, ns, ks, ah, aW, bg, all, aJ, now + aY⟩ : fF)) (by rintro ⟨_, h2⟩; unfold mZ at h2; revert XZ; show ((!(lY (⟨ds, ns, ks, ah, aW, bg, all, aJ, now + aY⟩ : fF) (aL ks n.aB) l).isSome) || (!lq l (sN ah (aL aW n.aB)) bg)) = true → False; intro h3; simp only [Bool.and_eq_true] at h2; have h4 : (lY (⟨ds, ns, ks, ah, aW, bg, all, aJ, now + aY⟩ : fF) (aL ks n.aB) l).isSome = true := h2.1.1; have h5 : lq l (sN ah (aL aW n.aB)) bg = true := h2.1.2; rw [h4, h5] at h3; cases h3) f
  exact ⟨Y, _, _, _, _, by rw [hnx]; exact (((((((FM.rm s9).rm s8).rm s7).rm s6).rm s5).rm s1).rm s0)⟩
 refine WP.skip (aA.norm ?_)
 refine rg <| mv Y <| ev (Ev.bX gQ Y Y (FM.x s7)) <| mv Y <| mv Y <| WL.call Y Y Y aaL (NC (((((FM.sel s1).sel s1).sel s4).sel s4).sel s4) (aL ks n.aB) (rX (⟨ds, ns, ks, ah, aW, bg, all, aJ, now + aY⟩ : fF) (aL aW n.aB) l) (vR (lY (⟨ds, ns, ks, ah, aW, bg, all, aJ, now + aY⟩ : fF) (aL ks n.aB) l)) (by omega) (by omega) (by omega)) Y ?_
 rintro _ w33 ⟨rfl, Jq, Jr, OV, OW, Oo⟩
 refine aR Y <| dn <| rg <| mv Y <| ev (Ev.not Y) <| dn ?_
 refine WP.aG Y (fun hc114 => ?_) (fun hc114 => ?_)
 ·
  refine WP.ret (aA.bW (aA.aP (aA.bW (aA.aD Y Y Y ?_))))
  have hb3 : rV l bg all (aL ks n.aB) (rX (⟨ds, ns, ks, ah, aW, bg, all, aJ, now + aY⟩ : fF) (aL aW n.aB) l) (vR (lY (⟨ds, ns, ks, ah, aW, bg, all, aJ, now + aY⟩ : fF) (aL ks n.aB) l)) (now + aY) = false := rY hc114
  have hl3 : kG l bg all (aL ks n.aB) (rX (⟨ds, ns, ks, ah, aW, bg, all, aJ, now + aY⟩ : fF) (aL aW n.aB) l) (vR (lY (⟨ds, ns, ks, ah, aW, bg, all, aJ, now + aY⟩ : fF) (aL ks n.aB) l)) (now + aY) = l := if_neg (by rw [hb3]; decide)
  have ho3 : mY l o bg all (aL ks n.aB) (rX (⟨ds, ns, ks, ah, aW, bg, all, aJ, now + aY⟩ : fF) (aL aW n.aB) l) (vR (lY (⟨ds, ns, ks, ah, aW, bg, all, aJ, now + aY⟩ : fF) (aL ks n.aB) l)) (now + aY) = o := if_neg (by rw [hb3]; decide)
  rw [hl3, ho3] at Oo
  have hnx : (uY (⟨ds, ns, ks, ah, aW, bg, all, aJ, now + aY⟩ : fF) (ls, os) n) = (l, o) := by rw [← hrep]; exact oO (x := (⟨ds, ns, ks, ah, aW, bg, all, aJ, now + aY⟩ : fF)) (by rintro ⟨_, h2⟩; unfold mZ at h2; simp only [Bool.and_eq_true] at h2; have h3 := rY hc114; have h4 := h2.2; exact absurd (h3.symm.trans h4) (by decide)) f
  exact ⟨Y, _, _, _, _, by rw [hnx]; exact (((((((Oo.rm s9).rm s8).rm s7).rm s6).rm s5).rm s4).rm s3)⟩
 have JE := aai hc114
 have hgo : mZ (⟨ds, ns, ks, ah, aW, bg, all, aJ, now + aY⟩ : fF) (aL ks n.aB) (aL aW n.aB) l = true := by have h1 : ((lY (⟨ds, ns, ks, ah, aW, bg, all, aJ, now + aY⟩ : fF) (aL ks n.aB) l).isSome && lq l (sN ah (aL aW n.aB)) bg) = true := by {revert XZ; cases (lY (⟨ds, ns, ks, ah, aW, bg, all, aJ, now + aY⟩ : fF) (aL ks n.aB) l).isSome <;> cases lq l (sN ah (aL aW n.aB)) bg <;> simp}; unfold mZ; rw [h1]; exact JE
 have acP : n.Have + ((dO l (aL ks n.aB).ID).length : Int) < aJ := by omega
 refine WP.skip (aA.aS ?_)
 exact aA.ag ⟨Jq, Jr, OV, OW, (kG l bg all (aL ks n.aB) (rX (⟨ds, ns, ks, ah, aW, bg, all, aJ, now + aY⟩ : fF) (aL aW n.aB) l) (vR (lY (⟨ds, ns, ks, ah, aW, bg, all, aJ, now + aY⟩ : fF) (aL ks n.aB) l)) (now + aY)), (mY l o bg all (aL ks n.aB) (rX (⟨ds, ns, ks, ah, aW, bg, all, aJ, now + aY⟩ : fF) (aL aW n.aB) l) (vR (lY (⟨ds, ns, ks, ah, aW, bg, all, aJ, now + aY⟩ : fF) (aL ks n.aB) l)) (now + aY)), (f - 1), Y, Y, by have hcb := pz JE; have hca := EZ JE; rw [hcb.2.1, hcb.2.2]; omega, by exact (QE (x := (⟨ds, ns, ks, ah, aW, bg, all, aJ, now + aY⟩ : fF)) (by omega) acP hgo).trans hrep, by have hcb := pz JE; rw [hcb.1]; omega, (((((Oo.rm s4).rm s3).sel s0).sel s2).sel s2)⟩ rfl (by omega)
end Go.Proofs.YtjcklpooaaaglaaGreat
