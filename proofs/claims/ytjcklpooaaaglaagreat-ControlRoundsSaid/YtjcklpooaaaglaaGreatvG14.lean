/- Texts that the statement needs, with short names. -/
import Derived.Test.YtjcklpooaaaglaaGreatvG13
set_option maxRecDepth 4000
set_option linter.all false
namespace Go.Proofs.YtjcklpooaaaglaaGreat
open Go.RowKit
theorem XC (s : List Int) (z r : Int) : (wE s z).contains r = (s.contains r || decide (z = r)) := by
  unfold wE
  by_cases h : s.contains z = true
  · rw [if_pos h]
    by_cases e : z = r
    · subst e; rw [h]; simp
    · simp [e]
  · rw [if_neg h]
    rw [Bool.eq_iff_iff]
    simp only [List.contains_iff_mem, List.mem_append, List.mem_singleton, Bool.or_eq_true, decide_eq_true_eq]
    exact or_congr Iff.rfl eq_comm
theorem Io (l : List ANode) (ids : List Int) (r : Int) : (dH l ids).contains r = ids.any fun (id : Int) => bZ l id && decide ((bL l id).dA = r) := by
  have key : ∀ (ids s : List Int), (ids.foldl (tO l) s).contains r = (s.contains r || ids.any fun (id : Int) => bZ l id && decide ((bL l id).dA = r)) := by
    intro ids
    induction ids with
    | nil => intro s; simp
    | cons id ids ih =>
      intro s
      rw [List.foldl_cons, ih, List.any_cons, ← Bool.or_assoc]
      congr 1
      unfold tO
      cases hb : bZ l id with
      | false => simp
      | true => simp only [if_true, XC, Bool.true_and]
  unfold dH; rw [key]; simp
theorem Zg {l : List ANode} {ids : List Int} {k : Nat} {x r : Int} (hx : ids[k]? = some x) (h : (bZ l x && decide ((bL l x).dA = r)) = true) : true = (dH l ids).contains r := by
  rw [Io]; symm; rw [List.any_eq_true]; exact ⟨x, bV hx, h⟩
theorem ade {l : List ANode} {ids : List Int} {k : Nat} {r : Int} (h : ∀ y ∈ ids.take k, (bZ l y && decide ((bL l y).dA = r)) = false) (hk : ids.length ≤ k) : false = (dH l ids).contains r := by
  rw [Io]; symm; rw [List.take_of_length_le hk] at h; rw [List.any_eq_false]; intro y hy; rw [h y hy]; decide
theorem QN (x : List ANode) (ah : List Int) (aI : List bP) (aT : List Int) : lG (dD x) ah aI aT (dD x) = lG x ah aI aT x := by
  cases hm : sF x with
  | true => rw [DX hm]
  | false =>
    rw [xJ hm]
    have key : ∀ (M : List ANode), M.foldl (R8 x ah aI aT) none = none := by
      intro M
      induction M with
      | nil => rfl
      | cons n M ih =>
        rw [List.foldl_cons]
        have h1 : R8 x ah aI aT none n = none := by
          unfold R8
          rw [if_neg]
          unfold nY bZ
          rw [xJ hm, show hits (fun (y : ANode) => dP y.ID n.ID) ([] : List ANode) = false from rfl]
          simp
        rw [h1]; exact ih
    exact (key x).symm
def FB (L : List ANode) (T : Option ANode) (b : Int) : Prop := (b = -1 ∧ T = none) ∨ ∃ (j : Nat) (y : ANode), b = (j : Int) ∧ L[j]? = some y ∧ T = some y
section
variable {L : List ANode} {ah : List Int} {aI : List bP} {aT : List Int} {k : Nat} {x y : ANode} {b : Int}
theorem agm (hx : L[k]? = some x) (hp : nY L ah aI aT x.ID = false) (h : FB L (lG L ah aI aT (L.take k)) b) : FB L (lG L ah aI aT (L.take (k + 1))) b := by
  rw [mV hx]; unfold R8; rw [hp]; exact h
theorem XD (hx : L[k]? = some x) (hp : nY L ah aI aT x.ID = true) (hb : b < 0) (h : FB L (lG L ah aI aT (L.take k)) b) : FB L (lG L ah aI aT (L.take (k + 1))) (k : Int) := by
  rcases h with ⟨_, h⟩ | ⟨j, y, h, _⟩
  · rw [mV hx, h]; unfold R8; rw [hp]; exact .inr ⟨k, x, rfl, hx, rfl⟩
  · omega
theorem aaC (h0 : ∀ x ∈ aI, 0 ≤ x.N) (R : List Int) (x y : ANode) : bt (wR R x) (zN aI x) (wR R y) (zN aI y) = (((!R.contains x.dA) && R.contains y.dA) || ((R.contains x.dA == R.contains y.dA) && decide (fJ aI x.ID < fJ aI y.ID))) := by
  have h1 := xL h0 x.ID; have h2 := xL h0 y.ID
  have h3 : decide (zN aI x < zN aI y) = decide (fJ aI x.ID < fJ aI y.ID) := by rw [decide_eq_decide]; show (fJ aI x.ID).toNat < (fJ aI y.ID).toNat ↔ _; omega
  have hR : ∀ n : ANode, wR R n = if R.contains n.dA = true then 1 else 0 := fun _ => rfl
  unfold bt
  rw [hR, hR, h3]
  cases hx : R.contains x.dA <;> cases hy : R.contains y.dA <;> simp
theorem adf (h0 : ∀ x ∈ aI, 0 ≤ x.N) (hx : L[k]? = some x) (hp : nY L ah aI aT x.ID = true) (ht : lG L ah aI aT (L.take k) = some y) (hc : (((!(dH L aT).contains x.dA) && (dH L aT).contains y.dA) || (((dH L aT).contains x.dA == (dH L aT).contains y.dA) && decide (fJ aI x.ID < fJ aI y.ID))) = true) : FB L (lG L ah aI aT (L.take (k + 1))) (k : Int) := by
  rw [mV hx, ht]; unfold R8; rw [if_pos hp]
  simp only [aaC h0, hc, if_true]
  exact .inr ⟨k, x, Y, hx, Y⟩
theorem Zh (h0 : ∀ x ∈ aI, 0 ≤ x.N) {j : Nat} (hx : L[k]? = some x) (hp : nY L ah aI aT x.ID = true) (hy : L[j]? = some y) (ht : lG L ah aI aT (L.take k) = some y) (hc : (((!(dH L aT).contains x.dA) && (dH L aT).contains y.dA) || (((dH L aT).contains x.dA == (dH L aT).contains y.dA) && decide (fJ aI x.ID < fJ aI y.ID))) = false) : FB L (lG L ah aI aT (L.take (k + 1))) (j : Int) := by
  rw [mV hx, ht]; unfold R8; rw [if_pos hp]
  simp only [aaC h0, hc]
  exact .inr ⟨j, y, Y, hy, Y⟩
end
theorem BJ : aM Tryz.prog 154 := fun _ _ => by kernel_rfl
theorem adg : aM Tryz.prog 152 := fun _ _ => by kernel_rfl
theorem XE : aM Tryz.prog 153 := fun _ _ => by kernel_rfl
theorem oU {S0 : Nat → Prop} (w : World) {d9 : an3} {eu : Nat} {l : List bP} (dN : Sl fO S0 w d9 eu l) (bO : Int) :
    bY Tryz.prog 154 #[.slice d9 l.length eu, .int .i64 bO] w fun v w' => v = .int .i64 (fJ l bO) ∧ Hp w S0 w' [] := by
 refine WP.enter Tryz.func154 Y Tryz.ntmps154 Y ?_
 have H0 := Hp.init w S0
 have iJ := dN.aN
 refine rg <| aR Y <| dn <| WP.seq <| rg <| aR Y <| dn <| WP.block <| Lp H0 (fun l0 rk mJ lJ wJ => ∃ (k : Nat), lJ = (5, .int .i64 ((k : Nat) : Int)) :: l0 ∧ mJ = l.length - k ∧ k ≤ l.length ∧ (∀ y ∈ l.take k, decide (y.Node = bO) = false) ∧ Hp w S0 wJ rk) ⟨0, Y, Y, Nat.zero_le _, by simp, H0⟩ rfl ?_
 rintro _ _ w1 ⟨k, rfl, rfl, hk, hno, K1⟩
 refine WP.seq <| rg <| mv Y <| mv Y <| ev (Ev.len Tryz.underlying130 Y) <| ev (Ev.lss Y Y) <| dn ?_
 refine WP.aG Y (fun jE => ?_) (fun jE => ?_)
 ·
  replace jE := of_decide_eq_true jE
  refine WP.skip (aA.norm ?_)
  refine WP.seq <| WP.block <| rg <| mv Y <| mv Y ?_
  obtain ⟨x1, hx1⟩ := get_some (xs := l) (i := k) (by omega)
  refine ev (Ev.index (i := k) Tryz.underlying130 j5 Y Y Y (aC hx1) ((K1.a dN).some_ hx1)) <| ev (Ev.field KW Y (bJ _ _ _)) <| ev (Ev.aZ bf Y ((K1.a dN).aX (j := 0) hx1 Y)) ?_
  refine mv Y <| ev (Ev.eql Y Y) <| dn ?_
  refine WP.aG Y (fun hc18 => ?_) (fun hc18 => ?_)
  ·
   replace hc18 := of_decide_eq_true hc18
   refine rg <| mv Y <| mv Y <| ev (Ev.index (i := k) Tryz.underlying130 j5 Y Y Y (aC hx1) ((K1.a dN).some_ hx1)) <| ev (Ev.field KX Y (bJ _ _ _)) <| ev (Ev.aZ bf Y ((K1.a dN).aX (j := 1) hx1 Y)) <| aR Y <| dn ?_
   refine WP.ret (aA.bW (aA.aP (aA.aP (aA.bW (aA.aP (aA.aD Y Y Y ?_))))))
   have hq1 : (x1.N : Int) = (fJ l bO) := by unfold fJ; rw [oN hno hx1 (by simpa using hc18)]
   exact ⟨by rw [hq1] <;> rfl, K1⟩
  replace hc18 := of_decide_eq_false hc18
  refine WP.skip (aA.aS (aA.norm ?_))
  refine eP <| mv Y <| ev (Ev.add Y Y (eX.mk (by omega) (by omega))) <| aR Y <| eT ?_
  exact aA.ag ⟨(k + 1), Y, Y, by omega, by exact gP (q := fun (y : bP) => decide (y.Node = bO) = false) hno hx1 (by simpa using hc18), K1⟩ rfl (by omega)
 replace jE := of_decide_eq_false jE
 refine WP.exit (aA.aF (aA.aF (aA.bS (aA.norm ?_))))
 refine rg <| aR Y <| dn ?_
 refine WP.ret (aA.aD Y Y Y ?_)
 have hq2 : (0 : Int) = (fJ l bO) := by unfold fJ; rw [qK (jf hno (by omega))]
 exact ⟨by rw [← hq2] <;> rfl, K1⟩
theorem TA {S0 : Nat → Prop} (w : World) {d9 : an3} {eu : Nat} {l : List ANode} (dN : Sl tNode S0 w d9 eu l) {cZ : an3} {dh : Nat} {ah : List Int} (cu : Sl tInt S0 w cZ dh ah) {fC : an3} {fD : Nat} {aI : List bP} (fH : Sl fO S0 w fC fD aI) {iF : an3} {iG : Nat} {aT : List Int} (ig : Sl tInt S0 w iF iG aT) (bO : Int) :
    bY Tryz.prog 152 #[.slice d9 l.length eu, .slice cZ ah.length dh, .slice fC aI.length fD, .slice iF aT.length iG, .int .i64 bO] w fun v w' => v = .bool (nY l ah aI aT bO) ∧ Hp w S0 w' [] := by
 refine WP.enter Tryz.func152 Y Tryz.ntmps152 Y ?_
 have H0 := Hp.init w S0
 have iJ := dN.aN
 have iy := cu.aN
 have mP := fH.aN
 have uL := ig.aN
 refine rg <| aR Y <| dn <| rg <| mv Y <| mv Y ?_
 refine C0 H0 Y Y Y yX (nJ _ (H0.a dN).any bO) fun w1 K1 => ?_
 refine mv Y <| xt Y Y <| xt Y Y ?_
 refine al iM Y K1 fun g1 w2 K2 => ?_
 refine iW Y Y Y eO K2 s0 Y Y fun w3 K3 => ?_
 refine aR Y <| dn <| rg <| mv Y <| mv Y ?_
 refine C0 K3 Y Y Y Cm (nQ _ (K3.a cu).any bO) fun w4 K4 => ?_
 refine aR Y <| dn <| rg <| mv Y <| mv Y ?_
 refine C0 K4 Y Y Y Cm (nQ _ (K4.a ig).any bO) fun w5 K5 => ?_
 refine aR Y <| dn <| WP.draw (by kernel_rfl) (by kernel_rfl) <| WQ.ev (Ev.move Y) Y <| WQ.ev (Ev.move Y) Y ?_
 refine WQ.dR 4 32 ((bZ l bO) && (decide ((bL l bO).dz = 0))) ?_ ?_
 ·
  cases Lm : bZ l bO with
  | true =>
   refine WQ.bF Y (Ev.field (q := ⟨g1, 3, none⟩) nU Y Y) Y <| WQ.bF Y (Ev.aj bf Y (K5.x s0) Y) Y <| WQ.bF Y (Ev.eql Y Y) Y ?_
   refine WQ.ev (Ev.bq Y Y) Y ?_
   exact WQ.bM Y
  | false =>
   refine WQ.pass Y Y Y <| WQ.pass Y Y Y <| WQ.pass Y Y Y <| WQ.ev (Ev.bn Y Y) Y ?_
   exact WQ.bM Y
 refine WQ.ev (Ev.move Y) Y ?_
 refine WQ.dR 2 35 (((bZ l bO) && (decide ((bL l bO).dz = 0))) && (ah.contains bO)) ?_ ?_
 ·
  cases CS : ((bZ l bO) && (decide ((bL l bO).dz = 0))) with
  | true =>
   have Lr := CS
   try simp only [Bool.and_eq_true, Bool.and_eq_false_imp, decide_eq_true_eq, decide_eq_false_iff_not] at Lr
   refine WQ.bF Y (Ev.move Y) Y <| WQ.ev (Ev.bq Y Y) Y ?_
   exact WQ.bM Y
  | false =>
   refine WQ.pass Y Y Y <| WQ.ev (Ev.bn Y Y) Y ?_
   exact WQ.bM Y
 refine WQ.ev (Ev.move Y) Y ?_
 refine WQ.dR 3 39 ((((bZ l bO) && (decide ((bL l bO).dz = 0))) && (ah.contains bO)) && (!(aT.contains bO))) ?_ ?_
 ·
  cases Vq : (((bZ l bO) && (decide ((bL l bO).dz = 0))) && (ah.contains bO)) with
  | true =>
   have LA := Vq
   try simp only [Bool.and_eq_true, Bool.and_eq_false_imp, decide_eq_true_eq, decide_eq_false_iff_not] at LA
   refine WQ.bF Y (Ev.move Y) Y <| WQ.bF Y (Ev.not Y) Y <| WQ.ev (Ev.bq Y Y) Y ?_
   exact WQ.bM Y
  | false =>
   refine WQ.pass Y Y Y <| WQ.pass Y Y Y <| WQ.ev (Ev.bn Y Y) Y ?_
   exact WQ.bM Y
 refine WQ.ev (Ev.move Y) Y ?_
 refine WQ.dR 7 47 (((((bZ l bO) && (decide ((bL l bO).dz = 0))) && (ah.contains bO)) && (!(aT.contains bO))) && (decide (fJ aI bO < (bL l bO).fI))) ?_ ?_
 ·
  cases I9 : ((((bZ l bO) && (decide ((bL l bO).dz = 0))) && (ah.contains bO)) && (!(aT.contains bO))) with
  | true =>
   have QH := I9
   try simp only [an4, an5, an6, an7, an8, an9, aoa, aob] at QH
   refine WQ.bF Y (Ev.move Y) Y <| WQ.bF Y (Ev.move Y) Y <| WQ.jd Y (v := .int .i64 (fJ aI bO)) Y Y Y BJ (fun wq eq => (oU wq ((K5.a fH).any.ext eq) bO).mono (by rintro _ _ ⟨rfl, hq2⟩; exact ⟨rfl, hq2.ext⟩)) rfl ?_
   refine WQ.bF Y (Ev.field (q := ⟨g1, 2, none⟩) pY Y Y) Y <| WQ.bF Y (Ev.aj bf Y (K5.x s0) Y) Y <| WQ.bF Y (Ev.lss Y Y) Y ?_
   refine WQ.ev (Ev.bq Y Y) Y ?_
   exact WQ.bM Y
  | false =>
   refine WQ.pass Y Y Y <| WQ.pass Y Y Y <| WQ.pass Y Y Y <| WQ.pass Y Y Y <| WQ.pass Y Y Y <| WQ.pass Y Y Y <| WQ.ev (Ev.bn Y Y) Y ?_
   exact WQ.bM Y
 refine WQ.ev (Ev.assign Y) Y ?_
 refine WQ.done fun w6 e6 => ?_
 have K6 := K5.grow e6
 refine WP.ret (aA.aD Y Y Y ?_)
 have hq1 : ((((((bZ l bO) && (decide ((bL l bO).dz = 0))) && (ah.contains bO)) && (!(aT.contains bO))) && (decide (fJ aI bO < (bL l bO).fI))) : Bool) = (nY l ah aI aT bO) := by rfl
 exact ⟨by rw [hq1] <;> rfl, (K6.rm s0)⟩
theorem Ip {S0 : Nat → Prop} (w : World) {d9 : an3} {eu : Nat} {l : List ANode} (dN : Sl tNode S0 w d9 eu l) {iF : an3} {iG : Nat} {aT : List Int} (ig : Sl tInt S0 w iF iG aT) (Pj : Int) :
    bY Tryz.prog 153 #[.slice d9 l.length eu, .slice iF aT.length iG, .int .i64 Pj] w fun v w' => v = .bool ((dH l aT).contains Pj) ∧ Hp w S0 w' [] := by
 refine WP.enter Tryz.func153 Y Tryz.ntmps153 Y ?_
 have H0 := Hp.init w S0
 have iJ := dN.aN
 have uL := ig.aN
 refine rg <| aR Y <| dn <| WP.seq <| rg <| aR Y <| dn <| WP.block <| Lp H0 (fun l0 rk mJ lJ wJ => ∃ (k : Nat), lJ = (7, .int .i64 ((k : Nat) : Int)) :: l0 ∧ mJ = aT.length - k ∧ k ≤ aT.length ∧ (∀ y ∈ aT.take k, (bZ l y && decide ((bL l y).dA = Pj)) = false) ∧ Hp w S0 wJ rk) ⟨0, Y, Y, Nat.zero_le _, by simp, H0⟩ rfl ?_
 rintro _ _ w1 ⟨k, rfl, rfl, hk, hno, K1⟩
 refine WP.seq <| rg <| mv Y <| mv Y <| ev (Ev.len Tryz.underlying51 Y) <| ev (Ev.lss Y Y) <| dn ?_
 refine WP.aG Y (fun kr => ?_) (fun kr => ?_)
 ·
  replace kr := of_decide_eq_true kr
  refine WP.skip (aA.norm ?_)
  refine WP.seq <| WP.block <| rg <| mv Y <| mv Y <| mv Y ?_
  obtain ⟨x1, hx1⟩ := get_some (xs := aT) (i := k) (by omega)
  refine ev (Ev.index (i := k) Tryz.underlying51 iC Y Y Y (aC hx1) ((K1.a ig).some_ hx1)) <| ev (Ev.aZ bf Y ((K1.a ig).aX (j := 0) hx1 Y)) ?_
  refine C0 K1 Y Y Y yX (nJ _ (K1.a dN).any x1) fun w2 K2 => ?_
  refine mv Y <| xt Y Y <| xt Y Y ?_
  refine al iM Y K2 fun g1 w3 K3 => ?_
  refine iW Y Y Y eO K3 s0 Y Y fun w4 K4 => ?_
  refine aR Y <| dn <| rg <| mv Y <| mv Y ?_
  refine WL.dR 5 31 ((bZ l x1) && (decide ((bL l x1).dA = Pj))) ?_ ?_
  ·
   cases MB : bZ l x1 with
   | true =>
    refine WL.bF Y (Ev.field (q := ⟨g1, 1, none⟩) l7 Y Y) Y <| WL.bF Y (Ev.aj bf Y (K4.x s0) Y) Y <| WL.bF Y (Ev.move Y) Y ?_
    refine WL.bF Y (Ev.eql Y Y) Y <| ev (Ev.bq Y Y) ?_
    exact WL.bM Y
   | false =>
    refine WL.pass Y Y Y <| WL.pass Y Y Y <| WL.pass Y Y Y <| WL.pass Y Y Y <| ev (Ev.bn Y Y) ?_
    exact WL.bM Y
  refine dn ?_
  refine WP.aG Y (fun hc31 => ?_) (fun hc31 => ?_)
  ·
   refine rg <| aR Y <| dn ?_
   refine WP.ret (aA.bW (aA.aP (aA.aP (aA.bW (aA.aP (aA.aD Y Y Y ?_))))))
   have hq1 : (true : Bool) = ((dH l aT).contains Pj) := by exact Zg hx1 hc31
   exact ⟨by rw [← hq1] <;> rfl, (K4.rm s0)⟩
  refine WP.skip (aA.aS (aA.norm ?_))
  refine eP <| mv Y <| ev (Ev.add Y Y (eX.mk (by omega) (by omega))) <| aR Y <| eT ?_
  exact aA.ag ⟨(k + 1), Y, Y, by omega, by exact gP (q := fun y => (bZ l y && decide ((bL l y).dA = Pj)) = false) hno hx1 hc31, (K4.rm s0)⟩ rfl (by omega)
 replace kr := of_decide_eq_false kr
 refine WP.exit (aA.aF (aA.aF (aA.bS (aA.norm ?_))))
 refine rg <| aR Y <| dn ?_
 refine WP.ret (aA.aD Y Y Y ?_)
 have hq2 : (false : Bool) = ((dH l aT).contains Pj) := by exact ade hno (by omega)
 exact ⟨by rw [← hq2] <;> rfl, K1⟩
theorem JW {S0 : Nat → Prop} (w : World) {QI : an3} {QJ : Nat} {x : List ANode} (QK : Sl tNode S0 w QI QJ x) {cZ : an3} {dh : Nat} {ah : List Int} (cu : Sl tInt S0 w cZ dh ah) {fC : an3} {fD : Nat} {aI : List bP} (fH : Sl fO S0 w fC fD aI) {iF : an3} {iG : Nat} {aT : List Int} (ig : Sl tInt S0 w iF iG aT) (h0 : ∀ x ∈ aI, 0 ≤ x.N) :
    bY Tryz.prog 96 #[.slice QI x.length QJ, .slice cZ ah.length dh, .slice fC aI.length fD, .slice iF aT.length iG] w fun v w' => v = .tuple #[.int .i64 (vR (lG x ah aI aT x)), .bool ((lG x ah aI aT x).isSome)] ∧ Hp w S0 w' [] := by
 refine WP.enter Tryz.func96 Y Tryz.ntmps96 Y ?_
 have H0 := Hp.init w S0
 have Zc := QK.aN
 have iy := cu.aN
 have mP := fH.aN
 have uL := ig.aN
 refine rg <| aR Y <| aR Y <| dn <| rg <| mv Y <| WL.call Y Y Y JL (vB _ (H0.a QK)) Y ?_
 rintro _ w1 ⟨mQ, mR, rfl, h1⟩
 have K1 := H0.c1 h1
 have Eu := (K1.s s0).aN
 refine aR Y <| dn <| rg <| aR Y <| dn <| WP.seq <| rg <| aR Y <| dn <| WP.block <| WP.lp (fun mJ lJ wJ => ∃ (k : Nat) (b : Int), lJ = [(1, .slice cZ ah.length dh), (2, .slice fC aI.length fD), (3, .slice iF aT.length iG), (10, .slice mQ ((dD x).length) mR), (11, .int .i64 b), (12, .int .i64 ((k : Nat) : Int))] ∧ mJ = (dD x).length - k ∧ k ≤ (dD x).length ∧ (FB (dD x) (lG (dD x) ah aI aT ((dD x).take k)) b) ∧ Hp w S0 wJ [fM tNode mQ mR (dD x)]) ⟨0, (-1), Y, Y, Nat.zero_le _, by exact .inl ⟨rfl, rfl⟩, K1⟩ rfl ?_
 rintro _ _ w2 ⟨k, b, rfl, rfl, hk, Nq, K2⟩
 refine WP.seq <| rg <| mv Y <| mv Y <| ev (Ev.len Tryz.underlying22 Y) <| ev (Ev.lss Y Y) <| dn ?_
 refine WP.aG Y (fun hc22 => ?_) (fun hc22 => ?_)
 ·
  replace hc22 := of_decide_eq_true hc22
  refine WP.skip (aA.norm ?_)
  refine WP.seq <| WP.block <| rg <| mv Y <| mv Y <| mv Y <| mv Y <| mv Y <| mv Y ?_
  obtain ⟨x1, hx1⟩ := get_some (xs := dD x) (i := k) (by omega)
  refine ev (Ev.index (i := k) Tryz.underlying22 eO Y Y Y (aC hx1) ((K2.s s0).some_ hx1)) <| ev (Ev.field dV Y (bJ _ _ _)) <| ev (Ev.aZ bf Y ((K2.s s0).aX (j := 0) hx1 Y)) ?_
  refine C0 K2 Y Y Y adg (TA _ (K2.s s0).any (K2.a cu).any (K2.a fH).any (K2.a ig).any x1.ID) fun w3 K3 => ?_
  refine aR Y <| dn <| WP.seq <| rg <| mv Y <| ev (Ev.not Y) <| dn ?_
  refine WP.aG Y (fun uN => ?_) (fun uN => ?_)
  ·
   try simp only [an4, an5, an6, an7, an8, an9, aoa, aob] at uN
   refine WP.exit (aA.aF (aA.bS (aA.norm ?_)))
   refine eP <| mv Y <| ev (Ev.add Y Y (eX.mk (by omega) (by omega))) <| aR Y <| eT ?_
   exact aA.ag ⟨(k + 1), b, Y, Y, by omega, by exact agm hx1 (by simpa using uN) Nq, K3⟩ rfl (by omega)
  try simp only [an4, an5, an6, an7, an8, an9, aoa, aob] at uN
  refine WP.skip (aA.norm ?_)
  refine WP.seq <| rg <| mv Y <| ev (Ev.lss Y Y) <| dn ?_
  refine WP.aG Y (fun hc38 => ?_) (fun hc38 => ?_)
  ·
   replace hc38 := of_decide_eq_true hc38
   refine rg <| mv Y <| aR Y <| dn ?_
   refine WP.exit (aA.aF (aA.bS (aA.norm ?_)))
   refine eP <| mv Y <| ev (Ev.add Y Y (eX.mk (by omega) (by omega))) <| aR Y <| eT ?_
   exact aA.ag ⟨(k + 1), ((k : Nat) : Int), Y, Y, by omega, by exact XD hx1 (by simpa using uN) hc38 Nq, K3⟩ rfl (by omega)
  replace hc38 := of_decide_eq_false hc38
  obtain ⟨j, y, rfl, hy, ht⟩ := Nq.resolve_left (fun h => by omega)
  refine WP.skip (aA.norm ?_)
  refine rg <| mv Y <| mv Y <| mv Y <| mv Y <| ev (Ev.index (i := k) Tryz.underlying22 eO Y Y Y (aC hx1) ((K3.s s0).some_ hx1)) <| ev (Ev.field l7 Y (bJ _ _ _)) <| ev (Ev.aZ bf Y ((K3.s s0).aX (j := 1) hx1 Y)) ?_
  refine C0 K3 Y Y Y XE (Ip _ (K3.s s0).any (K3.a ig).any x1.dA) fun w4 K4 => ?_
  refine aR Y <| dn <| rg <| mv Y <| mv Y <| mv Y <| mv Y <| ev (Ev.index (i := j) Tryz.underlying22 eO Y Y Y (aC hy) ((K4.s s0).some_ hy)) <| ev (Ev.field l7 Y (bJ _ _ _)) <| ev (Ev.aZ bf Y ((K4.s s0).aX (j := 1) hy Y)) ?_
  refine C0 K4 Y Y Y XE (Ip _ (K4.s s0).any (K4.a ig).any y.dA) fun w5 K5 => ?_
  refine aR Y <| dn <| WP.draw (by kernel_rfl) (by kernel_rfl) <| WQ.ev (Ev.move Y) Y <| WQ.ev (Ev.move Y) Y <| WQ.ev (Ev.move Y) Y <| WQ.ev (Ev.index (i := k) Tryz.underlying22 eO Y Y Y (aC hx1) ((K5.s s0).some_ hx1)) Y <| WQ.ev (Ev.field dV Y (bJ _ _ _)) Y <| WQ.ev (Ev.aZ bf Y ((K5.s s0).aX (j := 0) hx1 Y)) Y <| WQ.call (v := .int .i64 (fJ aI x1.ID)) Y Y Y BJ (fun wq eq => (oU wq ((K5.a fH).any.ext eq) x1.ID).mono (by rintro _ _ ⟨rfl, hq2⟩; exact ⟨rfl, hq2.ext⟩)) rfl <| WQ.ev (Ev.move rfl) rfl <| WQ.ev (Ev.move rfl) rfl <| WQ.ev (Ev.move rfl) rfl <| WQ.ev (Ev.index (i := j) Tryz.underlying22 eO rfl rfl rfl (aC hy) ((K5.s s0).some_ hy)) rfl ?_
  refine WQ.ev (Ev.field dV Y (bJ _ _ _)) Y <| WQ.ev (Ev.aZ bf Y ((K5.s s0).aX (j := 0) hy Y)) Y <| WQ.call (v := .int .i64 (fJ aI y.ID)) Y Y Y BJ (fun wq eq => (oU wq ((K5.a fH).any.ext eq) y.ID).mono (by rintro _ _ ⟨rfl, hq2⟩; exact ⟨rfl, hq2.ext⟩)) rfl ?_
  refine WQ.ev (Ev.lss Y Y) Y <| WQ.ev (Ev.assign Y) Y ?_
  refine WQ.done fun w6 e6 => ?_
  have K6 := K5.grow e6
  refine WP.keep' [(1, .slice cZ ah.length dh), (2, .slice fC aI.length fD), (3, .slice iF aT.length iG), (10, .slice mQ ((dD x).length) mR), (11, .int .i64 ((j : Nat) : Int)), (12, .int .i64 ((k : Nat) : Int)), (14, .bool ((dH (dD x) aT).contains x1.dA)), (15, .bool ((dH (dD x) aT).contains y.dA)), (16, .bool (decide (fJ aI x1.ID < fJ aI y.ID)))] Y ?_
  refine rg <| mv Y <| ev (Ev.not Y) <| mv Y ?_
  refine WL.dR 2 75 ((!((dH (dD x) aT).contains x1.dA)) && ((dH (dD x) aT).contains y.dA)) ?_ ?_
  ·
   cases af7 : (!((dH (dD x) aT).contains x1.dA)) with
   | true =>
    refine WL.bF Y (Ev.move Y) Y <| ev (Ev.bq Y Y) ?_
    exact WL.bM Y
   | false =>
    refine WL.pass Y Y Y <| ev (Ev.bn Y Y) ?_
    exact WL.bM Y
  refine mv Y ?_
  refine WL.dR 7 83 (((!((dH (dD x) aT).contains x1.dA)) && ((dH (dD x) aT).contains y.dA)) || ((((dH (dD x) aT).contains x1.dA) == ((dH (dD x) aT).contains y.dA)) && (decide (fJ aI x1.ID < fJ aI y.ID)))) ?_ ?_
  ·
   cases Xd : ((!((dH (dD x) aT).contains x1.dA)) && ((dH (dD x) aT).contains y.dA)) with
   | true =>
    refine WL.pass Y Y Y <| WL.pass Y Y Y <| WL.pass Y Y Y <| WL.pass Y Y Y <| WL.pass Y Y Y <| WL.pass Y Y Y <| ev (Ev.bq Y Y) ?_
    exact WL.bM Y
   | false =>
    have aay := Xd
    try simp only [an4, an5, an6, an7, an8, an9, aoa, aob] at aay
    refine WL.bF Y (Ev.move Y) Y <| WL.bF Y (Ev.move Y) Y <| WL.bF Y (Ev.eqb Tryz.underlying4 Y Y) Y <| WL.bF Y (Ev.move Y) Y ?_
    refine WL.dR 2 82 ((((dH (dD x) aT).contains x1.dA) == ((dH (dD x) aT).contains y.dA)) && (decide (fJ aI x1.ID < fJ aI y.ID))) ?_ ?_
    ·
     cases agn : (((dH (dD x) aT).contains x1.dA) == ((dH (dD x) aT).contains y.dA)) with
     | true =>
      refine WL.bF Y (Ev.move Y) Y <| WL.bF Y (Ev.bq Y Y) Y ?_
      exact WL.bM Y
     | false =>
      refine WL.pass Y Y Y <| WL.bF Y (Ev.bn Y Y) Y ?_
      exact WL.bM Y
    refine ev (Ev.bn Y Y) ?_
    exact WL.bM Y
  refine dn ?_
  refine WP.aG Y (fun adh => ?_) (fun adh => ?_)
  ·
   refine eP <| mv Y <| aR Y <| eT ?_
   refine aA.aS (aA.norm ?_)
   refine eP <| mv Y <| ev (Ev.add Y Y (eX.mk (by omega) (by omega))) <| aR Y <| eT ?_
   exact aA.ag ⟨(k + 1), ((k : Nat) : Int), Y, Y, by omega, by exact adf h0 hx1 (by simpa using uN) ht adh, K6⟩ rfl (by omega)
  refine WP.skip (aA.aS (aA.norm ?_))
  refine eP <| mv Y <| ev (Ev.add Y Y (eX.mk (by omega) (by omega))) <| aR Y <| eT ?_
  exact aA.ag ⟨(k + 1), ((j : Nat) : Int), Y, Y, by omega, by exact Zh h0 hx1 (by simpa using uN) hy ht adh, K6⟩ rfl (by omega)
 replace hc22 := of_decide_eq_false hc22
 refine WP.exit (aA.aF (aA.aF (aA.bS (aA.norm ?_))))
 refine WP.seq <| rg <| mv Y <| ev (Ev.lss Y Y) <| dn ?_
 refine WP.aG Y (fun XF => ?_) (fun XF => ?_)
 ·
  replace XF := of_decide_eq_true XF
  refine rg <| aR Y <| aR Y <| dn ?_
  refine WP.ret (aA.aP (aA.aD Y Y Y ?_))
  have hfin : lG x ah aI aT x = none := by rcases Nq with ⟨_, h⟩ | ⟨j, y, h, _⟩; { rw [List.take_of_length_le (by omega), QN] at h; exact h }; { omega }
  have hq1 : (0 : Int) = (vR (lG x ah aI aT x)) := by rw [hfin]; rfl
  have hq2 : (false : Bool) = ((lG x ah aI aT x).isSome) := by rw [hfin]; rfl
  exact ⟨by rw [← hq1, ← hq2] <;> rfl, (K2.rm s0)⟩
 replace XF := of_decide_eq_false XF
 obtain ⟨j, y, rfl, hy, ht⟩ := Nq.resolve_left (fun h => by omega)
 refine WP.skip (aA.norm ?_)
 refine rg <| mv Y <| mv Y <| ev (Ev.index (i := j) Tryz.underlying22 eO Y Y Y (aC hy) ((K2.s s0).some_ hy)) <| ev (Ev.field dV Y (bJ _ _ _)) <| ev (Ev.aZ bf Y ((K2.s s0).aX (j := 0) hy Y)) <| aR Y <| aR Y <| dn ?_
 refine WP.ret (aA.aD Y Y Y ?_)
 rw [List.take_of_length_le (by omega), QN] at ht
 have hq3 : (y.ID : Int) = (vR (lG x ah aI aT x)) := by rw [ht]; rfl
 have hq4 : (true : Bool) = ((lG x ah aI aT x).isSome) := by rw [ht]; rfl
 exact ⟨by rw [hq3, ← hq4] <;> rfl, (K2.rm s0)⟩
theorem Pm {S0 : Nat → Prop} (w : World) {d9 : an3} {eu : Nat} {l : List bP} (dN : Sl fO S0 w d9 eu l) (bO : Int) (hn : l.length ≤ 100000) (hp : 0 ≤ fJ l bO ∧ fJ l bO ≤ 100000) :
    bY Tryz.prog 156 #[.slice d9 l.length eu, .int .i64 bO] w fun v w' => ∃ (A0 : an3) (c0 : Nat), v = .slice A0 (((⟨bO, fJ l bO + 1⟩ : bP) :: l).length) c0 ∧ Hp w S0 w' [aQ fO 173 A0 c0 ((⟨bO, fJ l bO + 1⟩ : bP) :: l)] := by
 refine WP.enter Tryz.func156 Y Tryz.ntmps156 Y ?_
 have H0 := Hp.init w S0
 have iJ := dN.aN
 refine rg <| aR Y <| dn <| rg <| mv Y <| mv Y <| mv Y ?_
 refine C0 H0 Y Y Y BJ (oU _ (H0.a dN).any bO) fun w1 K1 => ?_
 refine ev (Ev.add Y Y (eX.mk (by omega) (by omega))) <| ev (Ev.build (vs := [(0, .int .i64 bO), (1, .int .i64 (fJ l bO + 1))]) (cs := [.int .i64 bO, .int .i64 (fJ l bO + 1)]) Y (by apply p9)) ?_
 refine ni (τ := fO) (x := (⟨bO, fJ l bO + 1⟩ : bP)) Y (by intro _; apply rC) rfl K1 (fun _ _ => rfl) fun g1 w2 K2 => ?_
 refine aR Y <| dn <| rg <| mv Y <| mv Y ?_
 refine ap (ys := l) K2 s0 Y Y (K2.a dN).any Tryz.underlying130 I5 (by simp) (by first | omega | (simp; omega) | (simp; done)) rfl fun jg jh w3 K3 => ?_
 refine aR Y <| dn ?_
 refine WP.ret (aA.aD Y Y Y ?_)
 have hq1 : ((([(⟨bO, fJ l bO + 1⟩ : bP)] : List bP) ++ l) : List bP) = ((⟨bO, fJ l bO + 1⟩ : bP) :: l) := by rfl
 rw [hq1] at K3
 exact ⟨jg, jh, by rw [hq1] <;> rfl, K3⟩
end Go.Proofs.YtjcklpooaaaglaaGreat
set_option maxRecDepth 4000
set_option linter.all false
namespace Go.Proofs.YtjcklpooaaaglaaGreat
open Go.RowKit
def yu (l : List bK) : Nat → Nat
  | 0 => 0
  | k + 1 => match l[k]?, l[yu l k]? with
    | some x, some y => if kg x y = true then k else yu l k
    | _, _ => yu l k
theorem vD (l : List bK) : ∀ k, 0 < k → k ≤ l.length → yu l k < k
  | 0, h, _ => absurd h (Nat.lt_irrefl _)
  | k + 1, _, hk => by
    unfold yu
    split
    · split
      · omega
      · rcases Nat.eq_zero_or_pos k with rfl | h
        · exact Nat.zero_lt_one
        · have := vD l k h (by omega); omega
    · rcases Nat.eq_zero_or_pos k with rfl | h
      · exact Nat.zero_lt_one
      · have := vD l k h (by omega); omega
theorem JX {l : List bK} {k : Nat} {x y : bK} (hx : l[k]? = some x) (hy : l[yu l k]? = some y) : yu l (k + 1) = if kg x y = true then k else yu l k := by
  conv => lhs; unfold yu
  rw [hx, hy]
theorem FC (l : List bK) : ∀ k, k ≤ l.length → ∀ y, l[yu l k]? = some y → ∀ j, j < k → ∀ z, l[j]? = some z → uP y z
  | 0, _, _, _, j, hj, _, _ => absurd hj (Nat.not_lt_zero _)
  | k + 1, hk, y, hy, j, hj, z, hz => by
    obtain ⟨x, hx⟩ := get_some (xs := l) (i := k) (by omega)
    obtain ⟨u, hu⟩ := get_some (xs := l) (i := yu l k) (by
      rcases Nat.eq_zero_or_pos k with rfl | h
      · show 0 < _; omega
      · have := vD l k h (by omega); omega)
    rw [JX hx hu] at hy
    by_cases hc : kg x u = true
    · rw [if_pos hc, hx] at hy; cases hy
      rcases Nat.lt_or_ge j k with h | h
      · exact (uP.of hc).tr (FC l k (by omega) u hu j h z hz)
      · obtain rfl : j = k := by omega
        rw [hx] at hz; cases hz; exact uP.rf _
    · rw [if_neg hc, hu] at hy; cases hy
      rcases Nat.lt_or_ge j k with h | h
      · exact FC l k (by omega) y hu j h z hz
      · obtain rfl : j = k := by omega
        rw [hx] at hz; cases hz
        unfold uP; simpa using hc
def pE (l : List bK) : Nat := yu l l.length
theorem JY {l : List bK} (h : 0 < l.length) : pE l < l.length := vD l _ h (Nat.le_refl _)
def FD (l : List bK) : List bK := l.take (pE l) ++ l.drop (pE l + 1)
theorem Nr {l : List bK} (h : 0 < l.length) : (FD l).length + 1 = l.length := by
  have := JY h; unfold FD; rw [List.length_append, List.length_take, List.length_drop]; omega
def xu : Nat → List bK → List bK
  | 0, _ => []
  | f + 1, r => match r[pE r]? with
    | some x => x :: xu f (FD r)
    | none => []
theorem TB {r : List bK} {x : bK} (hx : r[pE r]? = some x) : xu r.length r = x :: xu (FD r).length (FD r) := by
  have h := aC hx
  have hl := Nr (l := r) (by omega)
  rw [← hl]
  show (match r[pE r]? with | some x => x :: xu (FD r).length (FD r) | none => []) = _
  rw [hx]
theorem Iq {r : List bK} {x : bK} (hx : r[pE r]? = some x) : (x :: FD r).Perm r := by
  have h := aC hx
  have h1 : r = r.take (pE r) ++ x :: r.drop (pE r + 1) := by
    conv => lhs; rw [← List.take_append_drop (pE r) r]
    rw [List.drop_eq_getElem_cons h, (List.getElem?_eq_some_iff.1 hx).2]
  conv => rhs; rw [h1]
  exact List.perm_middle.symm
theorem QO : ∀ (f : Nat) (r : List bK), r.length = f → (xu f r).Perm r ∧ (xu f r).Pairwise uP
  | 0, r, h => by obtain rfl := List.eq_nil_of_length_eq_zero h; exact ⟨List.Perm.refl _, List.Pairwise.nil⟩
  | f + 1, r, h => by
    obtain ⟨x, hx⟩ := get_some (xs := r) (i := pE r) (JY (by omega))
    have hl := Nr (l := r) (by omega)
    have ih := QO f (FD r) (by omega)
    have e : xu (f + 1) r = x :: xu f (FD r) := by
      show (match r[pE r]? with | some x => x :: xu f (FD r) | none => []) = _
      rw [hx]
    rw [e]
    refine ⟨(ih.1.cons x).trans (Iq hx), List.pairwise_cons.2 ⟨fun z hz => ?_, ih.2⟩⟩
    have hm : z ∈ r := (Iq hx).mem_iff.1 (List.mem_cons_of_mem _ (ih.1.mem_iff.1 hz))
    obtain ⟨j, hj⟩ := List.getElem?_of_mem hm
    exact FC r r.length (Nat.le_refl _) x hx j (aC hj) z hj
theorem TD (l : List AChunk) (all : List ANode) (ah : List Int) (aJ : Int) : xu ((l.filter (kV all ah aJ)).map (lW all ah)).length ((l.filter (kV all ah aJ)).map (lW all ah)) = oh l all ah aJ := by
  have h1 := QO _ ((l.filter (kV all ah aJ)).map (lW all ah)) rfl
  have h2 := Bt l all ah aJ
  exact List.Perm.eq_of_pairwise (le := uP) (fun a b _ _ h1 h2 => h1.anti h2) h1.2 h2.2 (h1.1.trans h2.1.symm)
theorem Ir : aM Tryz.prog 93 := fun _ _ => by kernel_rfl
theorem adi : aM Tryz.prog 182 := fun _ _ => by kernel_rfl
theorem adk : aM Tryz.prog 150 := fun _ _ => by kernel_rfl
theorem XG : aM Tryz.prog 92 := fun _ _ => by kernel_rfl
theorem agp : aM Tryz.prog 94 := fun _ _ => by kernel_rfl
theorem mD {S0 : Nat → Prop} (w : World) (c : AChunk) {kR : an3} {kS : Nat} (nC : Sl tInt S0 w kR kS c.av) {cZ : an3} {dh : Nat} {ah : List Int} (cu : Sl tInt S0 w cZ dh ah) (hh : c.av.length ≤ 100000) :
    bY Tryz.prog 93 #[.agg #[.int .i64 c.ID, .int .i64 c.ay, .int .u32 c.Sum, .slice kR c.av.length kS], .slice cZ ah.length dh] w fun v w' => ∃ (A0 : an3) (c0 : Nat), v = .slice A0 ((gL c ah).length) c0 ∧ Hp w S0 w' [aQ tInt 3 A0 c0 (gL c ah)] := by
 refine WP.enter Tryz.func93 Y Tryz.ntmps93 Y ?_
 have H0 := Hp.init w S0
 have iy := cu.aN
 have hq := fun k => nX (fun (id : Int) => ah.contains id) c.av k
 refine rg ?_
 refine bx Y Y H0 fun g1 w1 K1 => ?_
 refine aR Y <| dn <| rg <| aR Y <| dn <| WP.seq <| rg <| aR Y <| dn <| WP.block ?_
 have H1 := K1.nil tInt 3
 have hq1 : (([] : List Int) : List Int) = ((c.av.take 0).filter (fun (id : Int) => ah.contains id)) := by rfl
 refine WP.re (t := 5) Y (congrArg (fun z => Value.slice none (List.length z) 0) hq1) ?_
 have H2 := H1.nil tInt 3
 have H3 := (hq1 ▸ H2 : Hp w S0 w1 (aQ tInt 3 none 0 ((c.av.take 0).filter (fun (id : Int) => ah.contains id)) :: [aQ tInt 3 none 0 [], dG g1 53 [.int .i64 c.ID, .int .i64 c.ay, .int .u32 c.Sum, .slice kR c.av.length kS]]))
 refine Lp ((H3.rm s1).rm s0) (fun l0 rk mJ lJ wJ => ∃ (k : Nat) (A5 : an3) (c5 : Nat), lJ = (5, .slice A5 (((c.av.take k).filter (fun (id : Int) => ah.contains id)).length) c5) :: (6, .int .i64 ((k : Nat) : Int)) :: l0 ∧ mJ = c.av.length - k ∧ k ≤ c.av.length ∧ Hp w S0 wJ (aQ tInt 3 A5 c5 ((c.av.take k).filter (fun (id : Int) => ah.contains id)) :: rk)) ⟨0, none, 0, Y, Y, Nat.zero_le _, (H3.rm s1)⟩ Y ?_
 rintro _ _ w2 ⟨k, A5, c5, rfl, rfl, hk, K2⟩
 refine WP.seq <| rg <| mv Y <| ev (Ev.field (q := ⟨g1, 3, none⟩) fT Y Y) <| ev (Ev.aj gK Y (K2.x s1) Y) <| ev (Ev.len Tryz.underlying51 Y) <| ev (Ev.lss Y Y) <| dn ?_
 refine WP.aG Y (fun iL => ?_) (fun iL => ?_)
 ·
  replace iL := of_decide_eq_true iL
  refine WP.skip (aA.norm ?_)
  refine WP.seq <| WP.block <| rg <| mv Y <| ev (Ev.field (q := ⟨g1, 3, none⟩) fT Y Y) <| ev (Ev.aj gK Y (K2.x s1) Y) <| mv Y ?_
  obtain ⟨x1, hx1⟩ := get_some (xs := c.av) (i := k) (by omega)
  refine ev (Ev.index (i := k) Tryz.underlying51 iC Y Y Y (aC hx1) ((K2.a nC).some_ hx1)) <| ev (Ev.aZ bf Y ((K2.a nC).aX (j := 0) hx1 Y)) ?_
  refine C0 K2 Y Y Y Cm (nQ _ (K2.a cu).any x1) fun w3 K3 => ?_
  refine aR Y <| dn <| rg <| mv Y <| dn ?_
  refine WP.aG Y (fun hc22 => ?_) (fun hc22 => ?_)
  ·
   refine eP <| mv Y <| ev (Ev.field (q := ⟨g1, 3, none⟩) fT Y Y) <| ev (Ev.aj gK Y (K3.x s1) Y) <| mv Y <| ev (Ev.index (i := k) Tryz.underlying51 iC Y Y Y (aC hx1) ((K3.a nC).some_ hx1)) <| ev (Ev.aZ bf Y ((K3.a nC).aX (j := 0) hx1 Y)) ?_
   refine ni (τ := tInt) (x := x1) Y (by intro _; apply jk) rfl K3 (fun _ _ => rfl) fun g2 w4 K4 => ?_
   refine ap (ys := ([x1] : List Int)) K4 s1 Y Y (K4.o s0) Tryz.underlying51 uF (by have := hq k; omega) (by simp) rfl fun jg jh w5 K5 => ?_
   refine aR Y <| eT ?_
   refine aA.aS (aA.norm ?_)
   refine eP <| mv Y <| ev (Ev.add Y Y (eX.mk (by omega) (by omega))) <| aR Y <| eT ?_
   have hq2 : ((((c.av.take k).filter (fun (id : Int) => ah.contains id)) ++ ([x1] : List Int)) : List Int) = ((c.av.take (k + 1)).filter (fun (id : Int) => ah.contains id)) := by rw [iE hx1]; first | rw [if_pos hc22] | rw [if_neg (by rw [hc22]; decide), List.append_nil]
   refine aA.re (t := 5) Y (congrArg (fun z => Value.slice jg (List.length z) jh) hq2) ?_
   rw [hq2] at K5
   exact aA.ag ⟨(k + 1), jg, jh, Y, Y, by omega, (K5.rm s1)⟩ rfl (by omega)
  refine WP.skip (aA.aS (aA.norm ?_))
  refine eP <| mv Y <| ev (Ev.add Y Y (eX.mk (by omega) (by omega))) <| aR Y <| eT ?_
  have hq3 : (((c.av.take k).filter (fun (id : Int) => ah.contains id)) : List Int) = ((c.av.take (k + 1)).filter (fun (id : Int) => ah.contains id)) := by rw [iE hx1]; first | rw [if_pos hc22] | rw [if_neg (by rw [hc22]; decide), List.append_nil]
  refine aA.re (t := 5) Y (congrArg (fun z => Value.slice A5 (List.length z) c5) hq3) ?_
  rw [hq3] at K3
  exact aA.ag ⟨(k + 1), A5, c5, Y, Y, by omega, K3⟩ rfl (by omega)
 replace iL := of_decide_eq_false iL
 refine WP.exit (aA.aF (aA.aF (aA.bS (aA.norm ?_))))
 refine rg <| mv Y <| aR Y <| dn ?_
 refine WP.ret (aA.aD Y Y Y ?_)
 have hq4 : (((c.av.take k).filter (fun (id : Int) => ah.contains id)) : List Int) = (gL c ah) := by rw [List.take_of_length_le (by omega)]; rfl
 rw [hq4] at K2
 exact ⟨A5, c5, by rw [hq4] <;> rfl, (K2.rm s1)⟩
theorem yY {S0 : Nat → Prop} (w : World) (c : AChunk) {kR : an3} {kS : Nat} (nC : Sl tInt S0 w kR kS c.av) {eY : an3} {eZ : Nat} {ak : List ANode} (dU : Sl tNode S0 w eY eZ ak) {cZ : an3} {dh : Nat} {ah : List Int} (cu : Sl tInt S0 w cZ dh ah) (hh : c.av.length ≤ 100000) :
    bY Tryz.prog 92 #[.agg #[.int .i64 c.ID, .int .i64 c.ay, .int .u32 c.Sum, .slice kR c.av.length kS], .slice eY ak.length eZ, .slice cZ ah.length dh] w fun v w' => ∃ (A0 : an3) (c0 : Nat), v = .slice A0 ((bR c ak ah).length) c0 ∧ Hp w S0 w' [aQ tInt 3 A0 c0 (bR c ak ah)] := by
 refine WP.enter Tryz.func92 Y Tryz.ntmps92 Y ?_
 have H0 := Hp.init w S0
 have mU := dU.aN
 have iy := cu.aN
 have hll := wP c ah
 have hq := fun k => nX (fun (id : Int) => bZ ak id && decide ((bL ak id).dz = 0)) (gL c ah) k
 refine rg ?_
 refine bx Y Y H0 fun g1 w1 K1 => ?_
 refine aR Y <| dn <| rg <| ev (Ev.bX gQ Y Y (K1.x s0)) <| mv Y <| WL.call Y Y Y Ir (mD _ c (K1.a nC).any (K1.a cu).any (by omega)) Y ?_
 rintro _ w2 ⟨lD, lF, rfl, h2⟩
 have K2 := K1.f1 h2
 have DN := (K2.o s0).aN
 refine aR Y <| dn <| rg <| aR Y <| dn <| WP.seq <| rg <| aR Y <| dn <| WP.block ?_
 have H1 := K2.nil tInt 3
 have hq1 : (([] : List Int) : List Int) = (((gL c ah).take 0).filter (fun (id : Int) => bZ ak id && decide ((bL ak id).dz = 0))) := by rfl
 refine WP.re (t := 8) Y (congrArg (fun z => Value.slice none (List.length z) 0) hq1) ?_
 have H2 := H1.nil tInt 3
 have H3 := (hq1 ▸ H2 : Hp w S0 w2 (aQ tInt 3 none 0 (((gL c ah).take 0).filter (fun (id : Int) => bZ ak id && decide ((bL ak id).dz = 0))) :: [aQ tInt 3 none 0 [], aQ tInt 3 lD lF (gL c ah), dG g1 53 [.int .i64 c.ID, .int .i64 c.ay, .int .u32 c.Sum, .slice kR c.av.length kS]]))
 refine Lp ((H3.rm s1).rm s0) (fun l0 rk mJ lJ wJ => ∃ (k : Nat) (A5 : an3) (c5 : Nat), lJ = (8, .slice A5 ((((gL c ah).take k).filter (fun (id : Int) => bZ ak id && decide ((bL ak id).dz = 0))).length) c5) :: (9, .int .i64 ((k : Nat) : Int)) :: l0 ∧ mJ = (gL c ah).length - k ∧ k ≤ (gL c ah).length ∧ Hp w S0 wJ (aQ tInt 3 A5 c5 (((gL c ah).take k).filter (fun (id : Int) => bZ ak id && decide ((bL ak id).dz = 0))) :: rk)) ⟨0, none, 0, Y, Y, Nat.zero_le _, (H3.rm s1)⟩ Y ?_
 rintro _ _ w3 ⟨k, A5, c5, rfl, rfl, hk, K3⟩
 refine WP.seq <| rg <| mv Y <| mv Y <| ev (Ev.len Tryz.underlying51 Y) <| ev (Ev.lss Y Y) <| dn ?_
 refine WP.aG Y (fun hc18 => ?_) (fun hc18 => ?_)
 ·
  replace hc18 := of_decide_eq_true hc18
  refine WP.skip (aA.norm ?_)
  refine WP.seq <| WP.block <| rg <| mv Y <| mv Y <| mv Y ?_
  obtain ⟨x1, hx1⟩ := get_some (xs := gL c ah) (i := k) (by omega)
  refine ev (Ev.index (i := k) Tryz.underlying51 iC Y Y Y (aC hx1) ((K3.o s1).some_ hx1)) <| ev (Ev.aZ bf Y ((K3.o s1).aX (j := 0) hx1 Y)) ?_
  refine C0 K3 Y Y Y yX (nJ _ (K3.a dU).any x1) fun w4 K4 => ?_
  refine mv Y <| xt Y Y <| xt Y Y ?_
  refine al iM Y K4 fun g2 w5 K5 => ?_
  refine iW Y Y Y eO K5 s0 Y Y fun w6 K6 => ?_
  refine aR Y <| dn <| rg <| mv Y <| mv Y ?_
  refine WL.dR 4 35 ((bZ ak x1) && (decide ((bL ak x1).dz = 0))) ?_ ?_
  ·
   cases Xj : bZ ak x1 with
   | true =>
    refine WL.bF Y (Ev.field (q := ⟨g2, 3, none⟩) nU Y Y) Y <| WL.bF Y (Ev.aj bf Y (K6.x s0) Y) Y <| WL.bF Y (Ev.eql Y Y) Y ?_
    refine ev (Ev.bq Y Y) ?_
    exact WL.bM Y
   | false =>
    refine WL.pass Y Y Y <| WL.pass Y Y Y <| WL.pass Y Y Y <| ev (Ev.bn Y Y) ?_
    exact WL.bM Y
  refine dn ?_
  refine WP.aG Y (fun kX => ?_) (fun kX => ?_)
  ·
   refine eP <| mv Y <| mv Y <| mv Y <| ev (Ev.index (i := k) Tryz.underlying51 iC Y Y Y (aC hx1) ((K6.o s2).some_ hx1)) <| ev (Ev.aZ bf Y ((K6.o s2).aX (j := 0) hx1 Y)) ?_
   refine ni (τ := tInt) (x := x1) Y (by intro _; apply jk) rfl K6 (fun _ _ => rfl) fun g3 w7 K7 => ?_
   refine ap (ys := ([x1] : List Int)) K7 s2 Y Y (K7.o s0) Tryz.underlying51 uF (by have := hq k; omega) (by simp) rfl fun jg jh w8 K8 => ?_
   refine aR Y <| eT ?_
   refine aA.aS (aA.norm ?_)
   refine eP <| mv Y <| ev (Ev.add Y Y (eX.mk (by omega) (by omega))) <| aR Y <| eT ?_
   have hq2 : (((((gL c ah).take k).filter (fun (id : Int) => bZ ak id && decide ((bL ak id).dz = 0))) ++ ([x1] : List Int)) : List Int) = (((gL c ah).take (k + 1)).filter (fun (id : Int) => bZ ak id && decide ((bL ak id).dz = 0))) := by rw [iE hx1]; first | rw [if_pos kX] | rw [if_neg (by rw [kX]; decide), List.append_nil]
   refine aA.re (t := 8) Y (congrArg (fun z => Value.slice jg (List.length z) jh) hq2) ?_
   rw [hq2] at K8
   exact aA.ag ⟨(k + 1), jg, jh, Y, Y, by omega, ((K8.rm s2).rm s1)⟩ rfl (by omega)
  refine WP.skip (aA.aS (aA.norm ?_))
  refine eP <| mv Y <| ev (Ev.add Y Y (eX.mk (by omega) (by omega))) <| aR Y <| eT ?_
  have hq3 : ((((gL c ah).take k).filter (fun (id : Int) => bZ ak id && decide ((bL ak id).dz = 0))) : List Int) = (((gL c ah).take (k + 1)).filter (fun (id : Int) => bZ ak id && decide ((bL ak id).dz = 0))) := by rw [iE hx1]; first | rw [if_pos kX] | rw [if_neg (by rw [kX]; decide), List.append_nil]
  refine aA.re (t := 8) Y (congrArg (fun z => Value.slice A5 (List.length z) c5) hq3) ?_
  rw [hq3] at K6
  exact aA.ag ⟨(k + 1), A5, c5, Y, Y, by omega, (K6.rm s0)⟩ rfl (by omega)
 replace hc18 := of_decide_eq_false hc18
 refine WP.exit (aA.aF (aA.aF (aA.bS (aA.norm ?_))))
 refine rg <| mv Y <| aR Y <| dn ?_
 refine WP.ret (aA.aD Y Y Y ?_)
 have hq4 : ((((gL c ah).take k).filter (fun (id : Int) => bZ ak id && decide ((bL ak id).dz = 0))) : List Int) = (bR c ak ah) := by rw [List.take_of_length_le (by omega)]; rfl
 rw [hq4] at K3
 exact ⟨A5, c5, by rw [hq4] <;> rfl, ((K3.rm s2).rm s1)⟩
theorem JZ {S0 : Nat → Prop} (w : World) (a : bK) (b : bK) :
    bY Tryz.prog 182 #[.agg #[.int .i64 a.aB, .int .i64 a.Have, .int .i64 a.Live], .agg #[.int .i64 b.aB, .int .i64 b.Have, .int .i64 b.Live]] w fun v w' => v = .bool (kg a b) ∧ Hp w S0 w' [] := by
 refine WP.enter Tryz.func182 Y Tryz.ntmps182 Y ?_
 have H0 := Hp.init w S0
 refine rg ?_
 refine bx Y Y H0 fun g1 w1 K1 => ?_
 refine bx Y Y K1 fun g2 w2 K2 => ?_
 refine aR Y <| dn <| rg <| ev (Ev.field (q := ⟨g1, 2, none⟩) rO Y Y) <| ev (Ev.aj bf Y (K2.x s1) Y) <| ev (Ev.field (q := ⟨g2, 2, none⟩) rO Y Y) <| ev (Ev.aj bf Y (K2.x s0) Y) <| ev (Ev.lss Y Y) <| mv Y ?_
 refine WL.dR 27 37 ((decide (a.Live < b.Live)) || ((decide (a.Live = b.Live)) && ((decide (a.Have < b.Have)) || ((decide (a.Have = b.Have)) && (decide (a.aB < b.aB)))))) ?_ ?_
 ·
  cases UU : decide (a.Live < b.Live) with
  | true =>
   refine WL.pass Y Y Y <| WL.pass Y Y Y <| WL.pass Y Y Y <| WL.pass Y Y Y <| WL.pass Y Y Y <| WL.pass Y Y Y <| WL.pass Y Y Y <| WL.pass Y Y Y <| WL.pass Y Y Y <| WL.pass Y Y Y <| WL.pass Y Y Y <| WL.pass Y Y Y <| WL.pass Y Y Y <| WL.pass Y Y Y ?_
   refine WL.pass Y Y Y <| WL.pass Y Y Y <| WL.pass Y Y Y <| WL.pass Y Y Y <| WL.pass Y Y Y <| WL.pass Y Y Y <| WL.pass Y Y Y <| WL.pass Y Y Y <| WL.pass Y Y Y <| WL.pass Y Y Y <| WL.pass Y Y Y <| WL.pass Y Y Y <| ev (Ev.bq Y Y) ?_
   exact WL.bM Y
  | false =>
   have ZG := of_decide_eq_false UU
   refine WL.bF Y (Ev.field (q := ⟨g1, 2, none⟩) rO Y Y) Y <| WL.bF Y (Ev.aj bf Y (K2.x s1) Y) Y <| WL.bF Y (Ev.field (q := ⟨g2, 2, none⟩) rO Y Y) Y ?_
   refine WL.bF Y (Ev.aj bf Y (K2.x s0) Y) Y <| WL.bF Y (Ev.eql Y Y) Y <| WL.bF Y (Ev.move Y) Y ?_
   refine WL.dR 20 36 ((decide (a.Live = b.Live)) && ((decide (a.Have < b.Have)) || ((decide (a.Have = b.Have)) && (decide (a.aB < b.aB))))) ?_ ?_
   ·
    cases CO : decide (a.Live = b.Live) with
    | true =>
     have yB := of_decide_eq_true CO
     refine WL.bF Y (Ev.field (q := ⟨g1, 1, none⟩) oW Y Y) Y <| WL.bF Y (Ev.aj bf Y (K2.x s1) Y) Y <| WL.bF Y (Ev.field (q := ⟨g2, 1, none⟩) oW Y Y) Y ?_
     refine WL.bF Y (Ev.aj bf Y (K2.x s0) Y) Y <| WL.bF Y (Ev.lss Y Y) Y <| WL.bF Y (Ev.move Y) Y ?_
     refine WL.dR 13 35 ((decide (a.Have < b.Have)) || ((decide (a.Have = b.Have)) && (decide (a.aB < b.aB)))) ?_ ?_
     ·
      cases ac3 : decide (a.Have < b.Have) with
      | true =>
       refine WL.pass Y Y Y <| WL.pass Y Y Y <| WL.pass Y Y Y <| WL.pass Y Y Y <| WL.pass Y Y Y <| WL.pass Y Y Y <| WL.pass Y Y Y <| WL.pass Y Y Y <| WL.pass Y Y Y <| WL.pass Y Y Y <| WL.pass Y Y Y <| WL.pass Y Y Y <| WL.bF Y (Ev.bq Y Y) Y ?_
       exact WL.bM Y
      | false =>
       have af5 := of_decide_eq_false ac3
       refine WL.bF Y (Ev.field (q := ⟨g1, 1, none⟩) oW Y Y) Y <| WL.bF Y (Ev.aj bf Y (K2.x s1) Y) Y <| WL.bF Y (Ev.field (q := ⟨g2, 1, none⟩) oW Y Y) Y ?_
       refine WL.bF Y (Ev.aj bf Y (K2.x s0) Y) Y <| WL.bF Y (Ev.eql Y Y) Y <| WL.bF Y (Ev.move Y) Y ?_
       refine WL.dR 6 34 ((decide (a.Have = b.Have)) && (decide (a.aB < b.aB))) ?_ ?_
       ·
        cases Lm : decide (a.Have = b.Have) with
        | true =>
         have GZ := of_decide_eq_true Lm
         refine WL.bF Y (Ev.field (q := ⟨g1, 0, none⟩) rP Y Y) Y <| WL.bF Y (Ev.aj bf Y (K2.x s1) Y) Y <| WL.bF Y (Ev.field (q := ⟨g2, 0, none⟩) rP Y Y) Y ?_
         refine WL.bF Y (Ev.aj bf Y (K2.x s0) Y) Y <| WL.bF Y (Ev.lss Y Y) Y <| WL.bF Y (Ev.bq Y Y) Y ?_
         exact WL.bM Y
        | false =>
         refine WL.pass Y Y Y <| WL.pass Y Y Y <| WL.pass Y Y Y <| WL.pass Y Y Y <| WL.pass Y Y Y <| WL.bF Y (Ev.bn Y Y) Y ?_
         exact WL.bM Y
       refine WL.bF Y (Ev.bn Y Y) Y ?_
       exact WL.bM Y
     refine WL.bF Y (Ev.bq Y Y) Y ?_
     exact WL.bM Y
    | false =>
     refine WL.pass Y Y Y <| WL.pass Y Y Y <| WL.pass Y Y Y <| WL.pass Y Y Y <| WL.pass Y Y Y <| WL.pass Y Y Y <| WL.pass Y Y Y <| WL.pass Y Y Y <| WL.pass Y Y Y <| WL.pass Y Y Y <| WL.pass Y Y Y <| WL.pass Y Y Y <| WL.pass Y Y Y <| WL.pass Y Y Y ?_
     refine WL.pass Y Y Y <| WL.pass Y Y Y <| WL.pass Y Y Y <| WL.pass Y Y Y <| WL.pass Y Y Y <| WL.bF Y (Ev.bn Y Y) Y ?_
     exact WL.bM Y
   refine ev (Ev.bn Y Y) ?_
   exact WL.bM Y
 refine aR Y <| dn ?_
 refine WP.ret (aA.aD Y Y Y ?_)
 have hq1 : (((decide (a.Live < b.Live)) || ((decide (a.Live = b.Live)) && ((decide (a.Have < b.Have)) || ((decide (a.Have = b.Have)) && (decide (a.aB < b.aB)))))) : Bool) = (kg a b) := by rw [Bool.eq_iff_iff]; simp only [xO, Bool.or_eq_true, Bool.and_eq_true, decide_eq_true_eq]
 exact ⟨by rw [hq1] <;> rfl, K2.z⟩
theorem Ns {S0 : Nat → Prop} (w : World) {d9 : an3} {eu : Nat} {l : List bK} (dN : Sl fP S0 w d9 eu l) (h1 : 1 ≤ l.length) :
    bY Tryz.prog 150 #[.slice d9 l.length eu] w fun v w' => v = .int .i64 ((pE l : Nat) : Int) ∧ Hp w S0 w' [] := by
 refine WP.enter Tryz.func150 Y Tryz.ntmps150 Y ?_
 have H0 := Hp.init w S0
 have iJ := dN.aN
 refine rg <| aR Y <| dn <| rg <| aR Y <| dn <| WP.seq <| rg <| aR Y <| dn <| WP.block <| Lp H0 (fun l0 rk mJ lJ wJ => ∃ (k : Nat) (b : Int), lJ = (3, .int .i64 b) :: (4, .int .i64 ((k : Nat) : Int)) :: l0 ∧ mJ = l.length - k ∧ k ≤ l.length ∧ (b = if k = 0 then -1 else ((yu l k : Nat) : Int)) ∧ Hp w S0 wJ rk) ⟨0, (-1), Y, Y, Nat.zero_le _, by rfl, H0⟩ rfl ?_
 rintro _ _ w1 ⟨k, b, rfl, rfl, hk, XH, K1⟩
 refine WP.seq <| rg <| mv Y <| mv Y <| ev (Ev.len Tryz.underlying82 Y) <| ev (Ev.lss Y Y) <| dn ?_
 refine WP.aG Y (fun jE => ?_) (fun jE => ?_)
 ·
  replace jE := of_decide_eq_true jE
  refine WP.skip (aA.norm ?_)
  refine WP.seq <| WP.block <| WP.seq <| rg <| mv Y <| ev (Ev.lss Y Y) <| dn ?_
  refine WP.aG Y (fun kr => ?_) (fun kr => ?_)
  ·
   replace kr := of_decide_eq_true kr
   refine rg <| aR Y <| dn ?_
   refine WP.exit (aA.aF (aA.bS (aA.norm ?_)))
   refine eP <| mv Y <| ev (Ev.add Y Y (eX.mk (by omega) (by omega))) <| aR Y <| eT ?_
   obtain ⟨x1, hx1⟩ := get_some (xs := l) (i := k) (by omega)
   exact aA.ag ⟨(k + 1), 0, Y, Y, by omega, by rw [if_neg (by omega)]; have hk0 : k = 0 := by {rcases Nat.eq_zero_or_pos k with h | h; { exact h }; { rw [if_neg (by omega)] at XH; have := vD l k h (by omega); omega }}; subst hk0; have h1 := vD l (0 + 1) (by omega) (by omega); omega, K1⟩ rfl (by omega)
  replace kr := of_decide_eq_false kr
  have hk0 : 0 < k := by rcases Nat.eq_zero_or_pos k with h | h; { rw [if_pos h] at XH; omega }; { exact h }
  rw [if_neg (by omega)] at XH
  subst XH
  have hjl := vD l k hk0 (by omega)
  refine WP.skip (aA.norm ?_)
  refine WP.draw (by kernel_rfl) (by kernel_rfl) <| WQ.ev (Ev.move Y) Y <| WQ.ev (Ev.move Y) Y ?_
  obtain ⟨x2, hx2⟩ := get_some (xs := l) (i := k) (by omega)
  refine WQ.ev (Ev.index (i := k) Tryz.underlying82 iK Y Y Y (aC hx2) ((K1.a dN).some_ hx2)) Y <| WQ.ev (Ev.loadRow jW Y Y ((K1.a dN).dx hx2)) Y ?_
  refine WQ.ev (Ev.move Y) Y <| WQ.ev (Ev.move Y) Y ?_
  obtain ⟨x3, hx3⟩ := get_some (xs := l) (i := yu l k) (by omega)
  refine WQ.ev (Ev.index (i := yu l k) Tryz.underlying82 iK Y Y Y (aC hx3) ((K1.a dN).some_ hx3)) Y <| WQ.ev (Ev.loadRow jW Y Y ((K1.a dN).dx hx3)) Y ?_
  refine WQ.call (v := .bool (kg x2 x3)) Y Y Y adi (fun wq eq => (JZ (S0 := Any) wq x2 x3).mono (by rintro _ _ ⟨rfl, hq2⟩; exact ⟨rfl, hq2.ext⟩)) rfl ?_
  refine WQ.ev (Ev.assign Y) Y ?_
  refine WQ.done fun w2 e2 => ?_
  have K2 := K1.grow e2
  refine rg <| mv Y <| dn ?_
  refine WP.aG Y (fun jS => ?_) (fun jS => ?_)
  ·
   refine eP <| mv Y <| aR Y <| eT ?_
   refine aA.aS (aA.norm ?_)
   refine eP <| mv Y <| ev (Ev.add Y Y (eX.mk (by omega) (by omega))) <| aR Y <| eT ?_
   exact aA.ag ⟨(k + 1), ((k : Nat) : Int), Y, Y, by omega, by rw [if_neg (by omega), JX hx2 hx3]; first | (rw [if_pos jS]; done) | (rw [if_neg (by rw [jS]; decide)]), K2⟩ rfl (by omega)
  refine WP.skip (aA.aS (aA.norm ?_))
  refine eP <| mv Y <| ev (Ev.add Y Y (eX.mk (by omega) (by omega))) <| aR Y <| eT ?_
  exact aA.ag ⟨(k + 1), ((yu l k : Nat) : Int), Y, Y, by omega, by rw [if_neg (by omega), JX hx2 hx3]; first | (rw [if_pos jS]; done) | (rw [if_neg (by rw [jS]; decide)]), K2⟩ rfl (by omega)
 replace jE := of_decide_eq_false jE
 refine WP.exit (aA.aF (aA.aF (aA.bS (aA.norm ?_))))
 refine rg <| mv Y <| aR Y <| dn ?_
 refine WP.ret (aA.aD Y Y Y ?_)
 have hq1 : (b : Int) = ((pE l : Nat) : Int) := by rw [XH, if_neg (by omega), show k = l.length by omega]; rfl
 exact ⟨by rw [← hq1] <;> rfl, K1⟩
theorem J2 {S0 : Nat → Prop} (w : World) {d9 : an3} {eu : Nat} {l : List bK} (dN : Sl fP S0 w d9 eu l) (hn : l.length ≤ 100000) :
    bY Tryz.prog 94 #[.slice d9 l.length eu] w fun v w' => ∃ (A0 : an3) (c0 : Nat), v = .slice A0 ((xu l.length l).length) c0 ∧ Hp w S0 w' [aQ fP 90 A0 c0 (xu l.length l)] := by
 refine WP.enter Tryz.func94 Y Tryz.ntmps94 Y ?_
 have H0 := Hp.init w S0
 have iJ := dN.aN
 refine rg <| aR Y <| dn <| rg <| mv Y ?_
 have H1 := H0.nil fP 90
 refine ap (ys := l) H1 s0 Y Y (H1.a dN).any Tryz.underlying82 EB (by simp) (by first | omega | (simp; omega) | (simp; done)) rfl fun jg jh w1 K1 => ?_
 refine aR Y <| dn <| rg <| aR Y <| dn <| WP.seq <| WP.block ?_
 have H2 := K1.nil fP 90
 have H3 := H2.nil fP 90
 refine Lp (((H3.rm s2).rm s1).rm s0) (fun l0 rk mJ lJ wJ => ∃ (r o : List bK) (A3 : an3) (c3 : Nat) (A4 : an3) (c4 : Nat), lJ = (3, .slice A3 r.length c3) :: (4, .slice A4 o.length c4) :: l0 ∧ mJ = r.length ∧ (o ++ (xu r.length r) = xu l.length l) ∧ (r.length + o.length ≤ 100000) ∧ Hp w S0 wJ (aQ fP 90 A3 c3 r :: aQ fP 90 A4 c4 o :: rk)) ⟨(([] : List bK) ++ l), ([] : List bK), jg, jh, none, 0, Y, Y, by rfl, by simp only [List.length_nil]; simp; omega, (((H3.rm s1).sel s0).sel s1)⟩ rfl ?_
 rintro _ _ w2 ⟨r, o, A3, c3, A4, c4, rfl, rfl, hsel, hrl, K2⟩
 refine WP.seq <| rg <| mv Y <| ev (Ev.len Tryz.underlying82 Y) <| ev (Ev.gtr Y Y) <| dn ?_
 refine WP.aG Y (fun fK => ?_) (fun fK => ?_)
 ·
  replace fK := of_decide_eq_true fK
  refine WP.skip (aA.norm ?_)
  refine WP.block <| rg <| mv Y ?_
  refine C0 K2 Y Y Y adk (Ns _ (K2.o s0) (by omega)) fun w3 K3 => ?_
  refine aR Y <| dn ?_
  have hlt := JY (l := r) (by omega)
  have hcl : ((([] : List bK) ++ (r.take (pE r))) ++ (r.drop (pE r + 1))).length + 1 = r.length := by simp only [List.nil_append, List.length_append, List.length_take, List.length_drop]; omega
  obtain ⟨x1, hx1⟩ := get_some (xs := r) (i := pE r) (by omega)
  refine rg <| mv Y <| mv Y <| mv Y <| ev (Ev.index (i := pE r) Tryz.underlying82 iK Y Y Y (aC hx1) ((K3.o s0).some_ hx1)) <| ev (Ev.loadRow jW Y Y ((K3.o s0).dx hx1)) ?_
  refine ni (τ := fP) (x := x1) Y (by intro _; apply o8) rfl K3 (fun _ _ => rfl) fun g1 w4 K4 => ?_
  refine ap (ys := ([x1] : List bK)) K4 s2 Y Y (K4.o s0) Tryz.underlying82 EB (by omega) (by simp) Y fun G5 cp2 w5 K5 => ?_
  refine aR Y <| dn <| rg <| mv Y <| mv Y <| ev (Ev.Kw (hi := pE r) (xs := r) Tryz.underlying82 iK Y Y Y (by omega) (K5.o s2).cap) ?_
  have H4 := K5.nil fP 90
  refine ap (ys := (r.take (pE r))) H4 s0 Y Y ((H4.o s3).Kw (hi := pE r) (by omega)) Tryz.underlying82 EB (by first | omega | simp) (by simp only [List.length_take]; omega) rfl fun Ap3 cp3 w6 K6 => ?_
  refine aR Y <| dn <| rg <| mv Y <| mv Y <| mv Y <| ev (Ev.add Y Y (eX.mk (by omega) (by omega))) <| ev (Ev.cutFrom (lo := pE r + 1) (xs := r) Tryz.underlying82 iK Y Y Y (by omega) (K6.o s3).cap) ?_
  refine ap (ys := (r.drop (pE r + 1))) K6 s0 Y Y ((K6.o s3).cutFrom (lo := pE r + 1) (by omega)) Tryz.underlying82 EB (by first | omega | (simp only [List.length_append, List.length_take, List.length_nil]; omega)) (by simp only [List.length_drop]; omega) rfl fun Ap4 cp4 w7 K7 => ?_
  refine aR Y <| dn <| eP <| mv Y <| aR Y <| eT <| aA.aS ?_
  exact aA.ag ⟨((([] : List bK) ++ (r.take (pE r))) ++ (r.drop (pE r + 1))), (o ++ ([x1] : List bK)), Ap4, cp4, G5, cp2, Y, Y, by rw [← hsel, TB hx1, List.append_assoc]; rfl, by have h2 := hcl; simp only [List.length_append, List.length_cons, List.length_nil] at h2 ⊢; omega, ((K7.rm s3).rm s2)⟩ rfl (by omega)
 replace fK := of_decide_eq_false fK
 refine WP.exit (aA.aF (aA.aF (aA.bS (aA.norm ?_))))
 refine rg <| mv Y <| aR Y <| dn ?_
 refine WP.ret (aA.aD Y Y Y ?_)
 have hq1 : (o : List bK) = (xu l.length l) := by have hr0 : r = [] := List.eq_nil_of_length_eq_zero (by omega); subst hr0; rw [← hsel]; exact (List.append_nil _).symm
 have H5 := (hq1 ▸ K2 : Hp w S0 w2 [aQ fP 90 A3 c3 r, aQ fP 90 A4 c4 (xu l.length l)])
 exact ⟨A4, c4, by rw [← hq1] <;> rfl, (H5.rm s0)⟩
theorem Nu {S0 : Nat → Prop} (w : World) {d9 : an3} {eu : Nat} {l : List AChunk} (dN : Sl tChunk S0 w d9 eu l) {eY : an3} {eZ : Nat} {ak : List ANode} (dU : Sl tNode S0 w eY eZ ak) {cZ : an3} {dh : Nat} {ah : List Int} (cu : Sl tInt S0 w cZ dh ah) (aJ : Int) (hl : l.length ≤ 10000) (hh : ∀ x ∈ l, x.av.length ≤ 100000) :
    bY Tryz.prog 45 #[.slice d9 l.length eu, .slice eY ak.length eZ, .slice cZ ah.length dh, .int .i64 aJ] w fun v w' => ∃ (A0 : an3) (c0 : Nat), v = .slice A0 ((oh l ak ah aJ).length) c0 ∧ Hp w S0 w' [aQ fP 90 A0 c0 (oh l ak ah aJ)] := by
 refine WP.enter Tryz.func45 Y Tryz.ntmps45 Y ?_
 have H0 := Hp.init w S0
 have iJ := dN.aN
 have mU := dU.aN
 have iy := cu.aN
 have hq := fun k => nX (kV ak ah aJ) l k
 refine rg <| aR Y <| dn <| rg <| aR Y <| dn <| WP.seq <| rg <| aR Y <| dn <| WP.block ?_
 have H1 := H0.nil fP 90
 have hq1 : (([] : List bK) : List bK) = (((l.take 0).filter (kV ak ah aJ)).map (lW ak ah)) := by rfl
 refine WP.re (t := 9) Y (congrArg (fun z => Value.slice none (List.length z) 0) hq1) ?_
 have H2 := H1.nil fP 90
 have H3 := (hq1 ▸ H2 : Hp w S0 w (aQ fP 90 none 0 (((l.take 0).filter (kV ak ah aJ)).map (lW ak ah)) :: [aQ fP 90 none 0 []]))
 refine WP.lp (fun mJ lJ wJ => ∃ (k : Nat) (A9 : an3) (c9 : Nat), lJ = [(0, .slice d9 l.length eu), (1, .slice eY ak.length eZ), (2, .slice cZ ah.length dh), (3, .int .i64 aJ), (9, .slice A9 ((((l.take k).filter (kV ak ah aJ)).map (lW ak ah)).length) c9), (10, .int .i64 ((k : Nat) : Int))] ∧ mJ = l.length - k ∧ k ≤ l.length ∧ Hp w S0 wJ [aQ fP 90 A9 c9 (((l.take k).filter (kV ak ah aJ)).map (lW ak ah))]) ⟨0, none, 0, Y, Y, Nat.zero_le _, (H3.rm s1)⟩ Y ?_
 rintro _ _ w1 ⟨k, A9, c9, rfl, rfl, hk, K1⟩
 refine WP.seq <| rg <| mv Y <| mv Y <| ev (Ev.len Tryz.underlying23 Y) <| ev (Ev.lss Y Y) <| dn ?_
 refine WP.aG Y (fun qL => ?_) (fun qL => ?_)
 ·
  replace qL := of_decide_eq_true qL
  refine WP.skip (aA.norm ?_)
  refine WP.seq <| WP.block ?_
  obtain ⟨x1, hx1⟩ := get_some (xs := l) (i := k) (by omega)
  have hhx := hh _ (bV hx1)
  refine He K1 (fun _ K => K) (fun l0 rk lJ wJ => ∃ (iZ : Nat), lJ = (11, .pointer (some ⟨iZ, 0, none⟩)) :: l0 ∧ Hp w S0 wJ (dG iZ 90 [.int .i64 x1.ID, .int .i64 (((bR x1 ak ah).length : Nat) : Int), .int .i64 (((gL x1 ah).length : Nat) : Int)] :: rk)) (fun hns H4 => ?_) ?_
  ·
   refine Tm 0 1 hns Y Y H4 <| Tm 1 3 hns Y Y H4 <| Tn 2 7 hns Y (fun _ hK => Ev.index (i := k) Tryz.underlying23 gu Y Y Y (aC hx1) ((hK.a dN).some_ hx1)) H4 ?_
   refine Tn 3 15 hns Y (fun _ _ => Ev.field gI Y (bJ _ _ _)) H4 ?_
   obtain ⟨B1, d1, kL, hi1⟩ := AChunk.op (dN.row hx1)
   refine Tn 4 31 hns Y (fun _ hK => Ev.aZ bf Y ((fun j u hu => hK.ext.cell (kL j u hu)) 0 _ Y)) H4 <| Tm 5 63 hns Y Y H4 <| Tm 6 127 hns Y Y H4 ?_
   refine Tn 7 255 hns Y (fun _ hK => Ev.index (i := k) Tryz.underlying23 gu Y Y Y (aC hx1) ((hK.a dN).some_ hx1)) H4 <| Tn 8 511 hns Y (fun _ hK => Ev.loadRow (cs := [.int .i64 x1.ID, .int .i64 x1.ay, .int .u32 x1.Sum, .slice B1 x1.av.length d1]) gQ Y Y (oJ (fun j u hu => hK.ext.cell (kL j u hu)))) H4 ?_
   refine Tm 9 1023 hns Y Y H4 <| Tm 10 2047 hns Y Y H4 <| Tm 13 10239 hns Y Y H4 <| Tm 14 26623 hns Y Y H4 <| Tn 15 59391 hns Y (fun _ hK => Ev.index (i := k) Tryz.underlying23 gu Y Y Y (aC hx1) ((hK.a dN).some_ hx1)) H4 <| Tn 16 124927 hns Y (fun _ hK => Ev.loadRow (cs := [.int .i64 x1.ID, .int .i64 x1.ay, .int .u32 x1.Sum, .slice B1 x1.av.length d1]) gQ Y Y (oJ (fun j u hu => hK.ext.cell (kL j u hu)))) H4 <| Tm 17 255999 hns Y Y H4 ?_
   refine Jn H4 (fun l0 rk lJ wJ => ∃ (Ze : an3) (Zf g2 : Nat) (lD : an3) (lF : Nat), lJ = (11, .pointer (some ⟨g2, 0, none⟩)) :: (30, .int .i64 (((bR x1 ak ah).length : Nat) : Int)) :: (36, .slice Ze ((gL x1 ah).length) Zf) :: l0 ∧ Hp w S0 wJ (aQ tInt 3 Ze Zf (gL x1 ah) :: dG g2 90 [.int .i64 0, .int .i64 0, .int .i64 0] :: aQ tInt 3 lD lF (bR x1 ak ah) :: rk)) 3 2621439 ?_ fun hS1 => ?_
   ·
    rintro _ Le ⟨Ze, Zf, g2, lD, lF, rfl, oH⟩
    have k9 := (((oH.rm s2).rm s1).rm s0)
    refine Tn 19 3145727 hns Y (fun _ _ => Ev.len Tryz.underlying51 Y) k9 <| Tn 20 4194303 hns Y (fun _ _ => Ev.build (vs := [(0, .int .i64 x1.ID), (1, .int .i64 (((bR x1 ak ah).length : Nat) : Int)), (2, .int .i64 (((gL x1 ah).length : Nat) : Int))]) (cs := [.int .i64 x1.ID, .int .i64 (((bR x1 ak ah).length : Nat) : Int), .int .i64 (((gL x1 ah).length : Nat) : Int)]) Y (by apply om)) k9 ?_
    refine O1 22 Y ?_
    refine iW Y Y Y iK oH s1 Y Y fun RY sP => ?_
    have k10 := (((sP.rm s2).rm s1).rm s0)
    refine WH.next k10 ?_
    exact Dn ⟨g2, Y, ((sP.rm s2).rm s1)⟩ Y
   refine O2 11 21 Y Y ?_ ?_
   ·
    refine WL.call Y Y Y XG (yY _ x1 (H4.a hi1).any (H4.a dU).any (H4.a cu).any hhx) Y ?_
    rintro _ RZ ⟨XI, XJ, rfl, h14⟩
    have nO := H4.f1 h14
    have adl := (nO.o s0).aN
    have k11 := (nO.rm s0)
    refine WH.next k11 <| Tn 12 262143 hns Y (fun _ _ => Ev.len Tryz.underlying51 Y) k11 ?_
    refine O2 18 21 Y Y ?_ ?_
    ·
     refine WL.call Y Y Y Ir (mD _ x1 (nO.a hi1).any (nO.a cu).any hhx) Y ?_
     rintro _ TM ⟨alq, alr, rfl, h15⟩
     have vW := nO.f1 h15
     have ajV := (vW.o s0).aN
     have k12 := ((vW.rm s1).rm s0)
     refine WH.next k12 <| Tn 19 1048575 hns Y (fun _ _ => Ev.len Tryz.underlying51 Y) k12 <| Tn 20 2097151 hns Y (fun _ _ => Ev.build (vs := [(0, .int .i64 x1.ID), (1, .int .i64 (((bR x1 ak ah).length : Nat) : Int)), (2, .int .i64 (((gL x1 ah).length : Nat) : Int))]) (cs := [.int .i64 x1.ID, .int .i64 (((bR x1 ak ah).length : Nat) : Int), .int .i64 (((gL x1 ah).length : Nat) : Int)]) Y (by apply om)) k12 ?_
     refine O1 21 Y ?_
     refine al og Y vW fun g4 w16 tQ => ?_
     have k13 := (((tQ.rm s2).rm s1).rm s0)
     refine WH.next k13 <| O1 22 Y ?_
     refine iW Y Y Y iK tQ s0 Y Y fun Vh qp => ?_
     have k14 := (((qp.rm s2).rm s1).rm s0)
     refine WH.next k14 ?_
     exact Dn ⟨g4, Y, ((qp.rm s2).rm s1)⟩ Y
    ·
     refine al og Y nO fun g5 Yb vX => ?_
     have k15 := ((vX.rm s1).rm s0)
     refine WH.next k15 <| O1 18 Y <| WL.call Y Y Y Ir (mD _ x1 (vX.a hi1).any (vX.a cu).any hhx) Y ?_
     rintro _ ZJ ⟨WE, WG, rfl, h19⟩
     have zy := vX.f1 h19
     have acW := (zy.o s0).aN
     have k16 := (((zy.rm s2).rm s1).rm s0)
     exact Kj hS1 k16 ⟨WE, WG, g5, XI, XJ, Y, zy⟩ Y
   ·
    refine al og Y H4 fun g6 ZK vG => ?_
    have k17 := (vG.rm s0)
    refine WH.next k17 <| O1 11 Y <| WL.call Y Y Y XG (yY _ x1 (vG.a hi1).any (vG.a dU).any (vG.a cu).any hhx) Y ?_
    rintro _ YR ⟨aaD, aaE, rfl, h21⟩
    have sJ := vG.f1 h21
    have adn := (sJ.o s0).aN
    have k18 := ((sJ.rm s1).rm s0)
    refine WH.next k18 <| Tn 12 2359295 hns Y (fun _ _ => Ev.len Tryz.underlying51 Y) k18 <| O1 18 Y <| WL.call Y Y Y Ir (mD _ x1 (sJ.a hi1).any (sJ.a cu).any hhx) Y ?_
    rintro _ ZL ⟨LX, LY, rfl, h22⟩
    have yO := sJ.f1 h22
    have OP := (yO.o s0).aN
    have k19 := (((yO.rm s2).rm s1).rm s0)
    exact Kj hS1 k19 ⟨LX, LY, g6, aaD, aaE, Y, (((yO.sel s1).sel s2).sel s2)⟩ Y
  rintro _ w23 ⟨iZ, rfl, Ag⟩
  refine rg <| ev (Ev.field (q := ⟨iZ, 2, none⟩) rO Y Y) <| ev (Ev.aj bf Y (Ag.x s0) Y) <| ev (Ev.gtr Y Y) <| mv Y ?_
  refine WL.dR 5 47 ((decide (0 < (((gL x1 ah).length : Nat) : Int))) && (decide ((((bR x1 ak ah).length : Nat) : Int) < aJ))) ?_ ?_
  ·
   cases XK : decide (0 < (((gL x1 ah).length : Nat) : Int)) with
   | true =>
    have QS := of_decide_eq_true XK
    refine WL.bF Y (Ev.field (q := ⟨iZ, 1, none⟩) oW Y Y) Y <| WL.bF Y (Ev.aj bf Y (Ag.x s0) Y) Y <| WL.bF Y (Ev.move Y) Y ?_
    refine WL.bF Y (Ev.lss Y Y) Y <| ev (Ev.bq Y Y) ?_
    exact WL.bM Y
   | false =>
    refine WL.pass Y Y Y <| WL.pass Y Y Y <| WL.pass Y Y Y <| WL.pass Y Y Y <| ev (Ev.bn Y Y) ?_
    exact WL.bM Y
  refine dn ?_
  refine WP.aG Y (fun hc47 => ?_) (fun hc47 => ?_)
  ·
   refine eP <| mv Y <| ev (Ev.bX jW Y Y (Ag.x s0)) ?_
   refine ni (τ := fP) (x := (⟨x1.ID, (((bR x1 ak ah).length : Nat) : Int), (((gL x1 ah).length : Nat) : Int)⟩ : bK)) Y (by intro _; apply o8) rfl Ag (fun _ _ => rfl) fun g7 w24 yt => ?_
   refine ap (ys := ([(⟨x1.ID, (((bR x1 ak ah).length : Nat) : Int), (((gL x1 ah).length : Nat) : Int)⟩ : bK)] : List bK)) yt s2 Y Y (yt.o s0) Tryz.underlying82 EB (by have := hq k; simp only [List.length_map]; omega) (by simp) rfl fun jg jh w25 yC => ?_
   refine aR Y <| eT ?_
   refine aA.aS (aA.norm ?_)
   refine eP <| mv Y <| ev (Ev.add Y Y (eX.mk (by omega) (by omega))) <| aR Y <| eT ?_
   have hq2 : (((((l.take k).filter (kV ak ah aJ)).map (lW ak ah)) ++ ([(⟨x1.ID, (((bR x1 ak ah).length : Nat) : Int), (((gL x1 ah).length : Nat) : Int)⟩ : bK)] : List bK)) : List bK) = (((l.take (k + 1)).filter (kV ak ah aJ)).map (lW ak ah)) := by rw [iE hx1]; first | (rw [show kV ak ah aJ x1 = true from hc47]; simp [lW]; done) | (rw [show kV ak ah aJ x1 = false from hc47]; simp)
   refine aA.re (t := 9) Y (congrArg (fun z => Value.slice jg (List.length z) jh) hq2) ?_
   rw [hq2] at yC
   exact aA.ag ⟨(k + 1), jg, jh, Y, Y, by omega, ((yC.rm s2).rm s1)⟩ rfl (by omega)
  refine WP.skip (aA.aS (aA.norm ?_))
  refine eP <| mv Y <| ev (Ev.add Y Y (eX.mk (by omega) (by omega))) <| aR Y <| eT ?_
  have hq3 : ((((l.take k).filter (kV ak ah aJ)).map (lW ak ah)) : List bK) = (((l.take (k + 1)).filter (kV ak ah aJ)).map (lW ak ah)) := by rw [iE hx1]; first | (rw [show kV ak ah aJ x1 = true from hc47]; simp [lW]; done) | (rw [show kV ak ah aJ x1 = false from hc47]; simp)
  refine aA.re (t := 9) Y (congrArg (fun z => Value.slice A9 (List.length z) c9) hq3) ?_
  rw [hq3] at Ag
  exact aA.ag ⟨(k + 1), A9, c9, Y, Y, by omega, (Ag.rm s0)⟩ rfl (by omega)
 replace qL := of_decide_eq_false qL
 refine WP.exit (aA.aF (aA.aF (aA.bS (aA.norm ?_))))
 refine rg <| mv Y <| WL.call Y Y Y agp (J2 _ (K1.o s0) (by rw [List.length_map]; have := hq k; omega)) rfl ?_
 rintro _ w26 ⟨agq, agr, rfl, h26⟩
 have y8 := K1.f1 h26
 have Wh := (y8.o s0).aN
 refine aR Y <| dn ?_
 refine WP.ret (aA.aD Y Y Y ?_)
 have hq4 : (xu (((l.take k).filter (kV ak ah aJ)).map (lW ak ah)).length (((l.take k).filter (kV ak ah aJ)).map (lW ak ah)) : List bK) = (oh l ak ah aJ) := by rw [List.take_of_length_le (by omega)]; exact TD l ak ah aJ
 rw [hq4] at y8
 exact ⟨agq, agr, by rw [hq4] <;> rfl, (y8.rm s1)⟩
end Go.Proofs.YtjcklpooaaaglaaGreat
