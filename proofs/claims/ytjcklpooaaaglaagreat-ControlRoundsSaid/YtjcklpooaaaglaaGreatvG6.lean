/- Texts that the statement needs, with short names. -/
import Derived.Test.YtjcklpooaaaglaaGreatvG5
set_option maxRecDepth 4000
set_option linter.all false
namespace Go.Proofs.YtjcklpooaaaglaaGreat
open Go.RowKit
def nY (l : List ANode) (ah : List Int) (aI : List bP) (aT : List Int) (bO : Int) : Bool := (((bZ l bO && decide ((bL l bO).dz = 0)) && ah.contains bO) && !aT.contains bO) && decide (fJ aI bO < (bL l bO).fI)
abbrev wZ (aI : List bP) (n : ANode) : Int := if n.fI < fJ aI n.ID then n.fI else fJ aI n.ID
abbrev wR (old : List Int) (n : ANode) : Nat := if old.contains n.dA = true then 1 else 0
theorem Qp {old : List Int} {n : ANode} {z : Int} (h : old.contains n.dA = true) : Value.complex .f64 (fb 1) (N8 true z) = Value.complex .f64 (fb (wR old n)) (N8 (old.contains n.dA) z) := by
  unfold wR; rw [h, if_pos rfl]
theorem Qq {old : List Int} {n : ANode} {z : Int} (h : old.contains n.dA = false) : Value.complex .f64 0 (fz z) = Value.complex .f64 (fb (wR old n)) (N8 (old.contains n.dA) z) := by
  unfold wR; rw [h, if_neg (by decide), show fb 0 = 0 from PZ]; unfold N8; rw [if_neg (by decide)]
theorem ab3 : ∀ w, (zeroValue 4).run Tryz.prog w = .ok (.bool false) w := fun _ => by kernel_rfl
theorem R6 {S0 : Nat → Prop} (w : World) {d9 : an3} {eu : Nat} {l : List ANode} (dN : Sl tNode S0 w d9 eu l) {BN : an3} {BO : Nat} {ids : List Int} (wN : Sl tInt S0 w BN BO ids) (hn : l.length ≤ 100000) :
    bY Tryz.prog 130 #[.slice d9 l.length eu, .slice BN ids.length BO] w fun v w' => ∃ (g0 : Nat), v = .map (some g0) ∧ Hp w S0 w' [Ut g0 (dH l ids)] := by
 refine WP.enter Tryz.func130 Y Tryz.ntmps130 Y ?_
 have H0 := Hp.init w S0
 have iJ := dN.aN
 have U4 := wN.aN
 refine rg <| aR Y <| dn <| rg ?_
 refine mks H0 Y fun g1 w1 K1 => ?_
 refine aR Y <| dn <| WP.seq <| rg <| mv Y <| ev (Ev.len Tryz.underlying51 Y) <| mv Y <| dn <| WP.block ?_
 have hq1 : [] = (dH l (ids.take 0)) := by rfl
 rw [hq1] at K1
 refine Lp (K1.rm s0) (fun l0 rk mJ lJ wJ => ∃ (k : Nat), lJ = (13, .int .i64 ((k : Nat) : Int)) :: l0 ∧ mJ = ids.length - k ∧ k ≤ ids.length ∧ Hp w S0 wJ (Ut g1 (dH l (ids.take k)) :: rk)) ⟨0, Y, Y, Nat.zero_le _, K1⟩ Y ?_
 rintro _ _ w2 ⟨k, rfl, rfl, hk, K2⟩
 refine rg <| ev (Ev.lss Y Y) <| dn ?_
 refine WP.cond Y (fun fE => ?_) (fun fE => ?_)
 ·
  replace fE := of_decide_eq_true fE
  refine WP.skip (aA.norm ?_)
  refine WP.seq <| WP.block <| rg ?_
  obtain ⟨x1, hx1⟩ := get_some (xs := ids) (i := k) (by omega)
  refine ev (Ev.index (i := k) Tryz.underlying51 iC Y Y Y (aC hx1) ((K2.a wN).some_ hx1)) <| ev (Ev.aZ bf Y ((K2.a wN).aX (j := 0) hx1 Y)) ?_
  refine aR Y <| dn <| rg <| mv Y <| mv Y ?_
  refine C0 K2 Y Y Y GV (tL _ (K2.a dN).any x1 (by omega)) fun w3 K3 => ?_
  refine mv Y <| xt Y Y <| xt Y Y ?_
  refine al iM Y K3 fun g2 w4 K4 => ?_
  refine iW Y Y Y eO K4 s0 Y Y fun w5 K5 => ?_
  refine aR Y <| dn <| rg <| mv Y <| dn ?_
  refine WP.aG Y (fun jS => ?_) (fun jS => ?_)
  ·
   refine eP <| mv Y <| ev (Ev.field (q := ⟨g2, 1, none⟩) l7 Y Y) <| ev (Ev.aj bf Y (K5.x s0) Y) ?_
   refine ad9 K5 s1 Y Y Y Tryz.underlying165 Tryz.underlying3 fun w6 K6 => ?_
   refine eT ?_
   refine aA.aS (aA.norm ?_)
   refine eP <| ev (Ev.add Y Y (eX.mk (by omega) (by omega))) <| mv Y <| eT ?_
   have hq2 : (wE (dH l (ids.take k)) ((bL l x1).dA)) = (dH l (ids.take (k + 1))) := by rw [rF hx1]; unfold tO; first | rw [if_pos jS] | rw [if_neg (by rw [jS]; decide)]
   rw [hq2] at K6
   exact aA.ag ⟨(k + 1), Y, Y, by omega, (K6.rm s1)⟩ rfl (by omega)
  refine WP.skip (aA.aS (aA.norm ?_))
  refine eP <| ev (Ev.add Y Y (eX.mk (by omega) (by omega))) <| mv Y <| eT ?_
  have hq3 : (dH l (ids.take k)) = (dH l (ids.take (k + 1))) := by rw [rF hx1]; unfold tO; first | rw [if_pos jS] | rw [if_neg (by rw [jS]; decide)]
  rw [hq3] at K5
  exact aA.ag ⟨(k + 1), Y, Y, by omega, (K5.rm s0)⟩ rfl (by omega)
 replace fE := of_decide_eq_false fE
 refine WP.exit (aA.aF (aA.aF (aA.bS (aA.norm ?_))))
 refine rg <| mv Y <| aR Y <| dn ?_
 refine WP.ret (aA.aD Y Y Y ?_)
 have hq4 : ((dH l (ids.take k)) : List Int) = (dH l ids) := by rw [List.take_of_length_le (by omega)]
 rw [hq4] at K2
 exact ⟨g1, Y, K2⟩
theorem R7 {S0 : Nat → Prop} (w : World) (n : ANode) {fC : an3} {fD : Nat} {aI : List bP} (fH : Sl fO S0 w fC fD aI) {ZQ : Nat} {old : List Int} (aeI : w.heap[ZQ]? = some (.map (mO old) old.length)) :
    bY Tryz.prog 131 #[.agg #[.int .i64 n.ID, .int .i64 n.dA, .int .i64 n.fI, .int .i64 n.dz], .slice fC aI.length fD, .map (some ZQ)] w fun v w' => v = .complex .f64 (fb (wR old n)) (N8 (old.contains n.dA) (wZ aI n)) ∧ Hp w S0 w' [] := by
 refine WP.enter Tryz.func131 Y Tryz.ntmps131 Y ?_
 have H0 := Hp.init w S0
 have mP := fH.aN
 refine rg ?_
 refine bx Y Y H0 fun g1 w1 K1 => ?_
 refine aR Y <| dn <| WP.draw (by kernel_rfl) (by kernel_rfl) <| WQ.ev (Ev.move Y) Y <| WQ.ev (Ev.field (q := ⟨g1, 0, none⟩) dV Y Y) Y <| WQ.ev (Ev.aj bf Y (K1.x s0) Y) Y <| WQ.call (v := .int .i64 (fJ aI n.ID)) Y Y Y qI (fun wq eq => (lQ wq ((K1.a fH).any.ext eq) n.ID).mono (by rintro _ _ ⟨rfl, hq2⟩; exact ⟨rfl, hq2.ext⟩)) rfl <| WQ.ev (Ev.field (q := ⟨g1, 2, none⟩) pY rfl rfl) rfl <| WQ.ev (Ev.aj bf rfl (K1.x s0) rfl) rfl <| WQ.ev (Ev.min2 rfl rfl) rfl <| WQ.ev (Ev.aee ⟨_, Tryz.underlying3⟩ Tryz.underlying156 rfl) rfl <| WQ.ev (Ev.aif rfl rfl) rfl <| WQ.ev (Ev.assign rfl) rfl ?_
 refine WQ.done fun w2 e2 => ?_
 have K2 := K1.grow e2
 refine WP.seq <| rg <| mv Y <| ev (Ev.field (q := ⟨g1, 1, none⟩) l7 Y Y) <| ev (Ev.aj bf Y (K2.x s0) Y) <| ev (Ev.aea (K2.was aeI) Tryz.underlying165 Tryz.underlying3 ab3 Y Y) <| dn ?_
 refine WP.aG Y (fun iX => ?_) (fun iX => ?_)
 ·
  refine eP <| mv Y <| ev (Ev.Ym Y Y c01 (Yy _)) <| aR Y <| eT <| aA.norm <| rg <| mv Y <| aR Y <| dn ?_
  refine WP.ret (aA.aD Y Y Y ?_)
  have hq1 : (.complex .f64 (fb 1) (N8 true (if n.fI < fJ aI n.ID then n.fI else fJ aI n.ID)) : Value) = (.complex .f64 (fb (wR old n)) (N8 (old.contains n.dA) (wZ aI n))) := by first | exact Qp iX | exact Qq iX
  exact ⟨by rw [hq1] <;> rfl, (K2.rm s0)⟩
 refine WP.skip (aA.norm ?_)
 refine rg <| mv Y <| aR Y <| dn ?_
 refine WP.ret (aA.aD Y Y Y ?_)
 have hq2 : (.complex .f64 0 (fz (if n.fI < fJ aI n.ID then n.fI else fJ aI n.ID)) : Value) = (.complex .f64 (fb (wR old n)) (N8 (old.contains n.dA) (wZ aI n))) := by first | exact Qp iX | exact Qq iX
 exact ⟨by rw [hq2] <;> rfl, (K2.rm s0)⟩
theorem YT {S0 : Nat → Prop} (w : World) {d9 : an3} {eu : Nat} {l : List ANode} (dN : Sl tNode S0 w d9 eu l) {cZ : an3} {dh : Nat} {ah : List Int} (cu : Sl tInt S0 w cZ dh ah) {fC : an3} {fD : Nat} {aI : List bP} (fH : Sl fO S0 w fC fD aI) {iF : an3} {iG : Nat} {aT : List Int} (ig : Sl tInt S0 w iF iG aT) (bO : Int) (hn : l.length ≤ 100000) :
    bY Tryz.prog 132 #[.slice d9 l.length eu, .slice cZ ah.length dh, .slice fC aI.length fD, .slice iF aT.length iG, .int .i64 bO] w fun v w' => v = .bool (nY l ah aI aT bO) ∧ Hp w S0 w' [] := by
 refine WP.enter Tryz.func132 Y Tryz.ntmps132 Y ?_
 have H0 := Hp.init w S0
 have iJ := dN.aN
 have iy := cu.aN
 have mP := fH.aN
 have uL := ig.aN
 refine rg <| aR Y <| dn <| rg <| mv Y <| mv Y ?_
 refine C0 H0 Y Y Y GV (tL _ (H0.a dN).any bO (by omega)) fun w1 K1 => ?_
 refine mv Y <| xt Y Y <| xt Y Y ?_
 refine al iM Y K1 fun g1 w2 K2 => ?_
 refine iW Y Y Y eO K2 s0 Y Y fun w3 K3 => ?_
 refine aR Y <| dn <| WP.draw (by kernel_rfl) (by kernel_rfl) <| WQ.ev (Ev.move Y) Y <| WQ.ev (Ev.move Y) Y ?_
 refine WQ.dR 4 24 ((bZ l bO) && (decide ((bL l bO).dz = 0))) ?_ ?_
 ·
  cases UF : bZ l bO with
  | true =>
   refine WQ.bF Y (Ev.field (q := ⟨g1, 3, none⟩) nU Y Y) Y <| WQ.bF Y (Ev.aj bf Y (K3.x s0) Y) Y <| WQ.bF Y (Ev.eql Y Y) Y ?_
   refine WQ.ev (Ev.bq Y Y) Y ?_
   exact WQ.bM Y
  | false =>
   refine WQ.pass Y Y Y <| WQ.pass Y Y Y <| WQ.pass Y Y Y <| WQ.ev (Ev.bn Y Y) Y ?_
   exact WQ.bM Y
 refine WQ.ev (Ev.move Y) Y ?_
 refine WQ.dR 4 29 (((bZ l bO) && (decide ((bL l bO).dz = 0))) && (ah.contains bO)) ?_ ?_
 ·
  cases aeJ : ((bZ l bO) && (decide ((bL l bO).dz = 0))) with
  | true =>
   have aeK := aeJ
   try simp only [Bool.and_eq_true, Bool.and_eq_false_imp, decide_eq_true_eq, decide_eq_false_iff_not] at aeK
   refine WQ.bF Y (Ev.move Y) Y <| WQ.bF Y (Ev.move Y) Y <| WQ.jd Y (v := .bool (ah.contains bO)) Y Y Y yx (fun wq eq => (iq wq ((K3.a cu).any.ext eq) bO).mono (by rintro _ _ ⟨rfl, hq2⟩; exact ⟨rfl, hq2.ext⟩)) rfl ?_
   refine WQ.ev (Ev.bq Y Y) Y ?_
   exact WQ.bM Y
  | false =>
   refine WQ.pass Y Y Y <| WQ.pass Y Y Y <| WQ.pass Y Y Y <| WQ.ev (Ev.bn Y Y) Y ?_
   exact WQ.bM Y
 refine WQ.ev (Ev.move Y) Y ?_
 refine WQ.dR 5 35 ((((bZ l bO) && (decide ((bL l bO).dz = 0))) && (ah.contains bO)) && (!(aT.contains bO))) ?_ ?_
 ·
  cases aeL : (((bZ l bO) && (decide ((bL l bO).dz = 0))) && (ah.contains bO)) with
  | true =>
   have aeM := aeL
   try simp only [Bool.and_eq_true, Bool.and_eq_false_imp, decide_eq_true_eq, decide_eq_false_iff_not] at aeM
   refine WQ.bF Y (Ev.move Y) Y <| WQ.bF Y (Ev.move Y) Y <| WQ.jd Y (v := .bool (aT.contains bO)) Y Y Y yx (fun wq eq => (iq wq ((K3.a ig).any.ext eq) bO).mono (by rintro _ _ ⟨rfl, hq2⟩; exact ⟨rfl, hq2.ext⟩)) rfl ?_
   refine WQ.bF Y (Ev.not Y) Y <| WQ.ev (Ev.bq Y Y) Y ?_
   exact WQ.bM Y
  | false =>
   refine WQ.pass Y Y Y <| WQ.pass Y Y Y <| WQ.pass Y Y Y <| WQ.pass Y Y Y <| WQ.ev (Ev.bn Y Y) Y ?_
   exact WQ.bM Y
 refine WQ.ev (Ev.move Y) Y ?_
 refine WQ.dR 7 43 (((((bZ l bO) && (decide ((bL l bO).dz = 0))) && (ah.contains bO)) && (!(aT.contains bO))) && (decide (fJ aI bO < (bL l bO).fI))) ?_ ?_
 ·
  cases Vq : ((((bZ l bO) && (decide ((bL l bO).dz = 0))) && (ah.contains bO)) && (!(aT.contains bO))) with
  | true =>
   have LA := Vq
   try simp only [an4, an5, an6, an7, an8, an9, aoa, aob] at LA
   refine WQ.bF Y (Ev.move Y) Y <| WQ.bF Y (Ev.move Y) Y <| WQ.jd Y (v := .int .i64 (fJ aI bO)) Y Y Y qI (fun wq eq => (lQ wq ((K3.a fH).any.ext eq) bO).mono (by rintro _ _ ⟨rfl, hq2⟩; exact ⟨rfl, hq2.ext⟩)) rfl ?_
   refine WQ.bF Y (Ev.field (q := ⟨g1, 2, none⟩) pY Y Y) Y <| WQ.bF Y (Ev.aj bf Y (K3.x s0) Y) Y <| WQ.bF Y (Ev.lss Y Y) Y ?_
   refine WQ.ev (Ev.bq Y Y) Y ?_
   exact WQ.bM Y
  | false =>
   refine WQ.pass Y Y Y <| WQ.pass Y Y Y <| WQ.pass Y Y Y <| WQ.pass Y Y Y <| WQ.pass Y Y Y <| WQ.pass Y Y Y <| WQ.ev (Ev.bn Y Y) Y ?_
   exact WQ.bM Y
 refine WQ.ev (Ev.assign Y) Y ?_
 refine WQ.done fun w4 e4 => ?_
 have K4 := K3.grow e4
 refine WP.ret (aA.aD Y Y Y ?_)
 have hq1 : ((((((bZ l bO) && (decide ((bL l bO).dz = 0))) && (ah.contains bO)) && (!(aT.contains bO))) && (decide (fJ aI bO < (bL l bO).fI))) : Bool) = (nY l ah aI aT bO) := by rfl
 exact ⟨by rw [hq1] <;> rfl, (K4.rm s0)⟩
end Go.Proofs.YtjcklpooaaaglaaGreat
set_option maxRecDepth 4000
set_option linter.all false
namespace Go.Proofs.YtjcklpooaaaglaaGreat
open Go.RowKit
def bt (x y u z : Nat) : Bool := if x ≠ u then decide (x < u) else decide (y < z)
abbrev zN (aI : List bP) (n : ANode) : Nat := (fJ aI n.ID).toNat
def R8 (l : List ANode) (ah : List Int) (aI : List bP) (aT : List Int) (b : Option ANode) (n : ANode) : Option ANode := if nY l ah aI aT n.ID = true then (match b with | none => some n | some m => if bt (wR (dH l aT) n) (zN aI n) (wR (dH l aT) m) (zN aI m) = true then some n else some m) else b
def lG (l : List ANode) (ah : List Int) (aI : List bP) (aT : List Int) (M : List ANode) : Option ANode := M.foldl (R8 l ah aI aT) none
def vR (b : Option ANode) : Int := match b with | none => 0 | some m => m.ID
theorem getD_some {b : Option ANode} (h : (!b.isSome) = false) : b = some (b.getD ⟨0, 0, 0, 0⟩) := by
  cases b with
  | none => cases h
  | some m => rfl
theorem Bh (l : List ANode) (ah : List Int) (aI : List bP) (aT : List Int) (b : Option ANode) (n : ANode) : R8 l ah aI aT b n = if (nY l ah aI aT n.ID && (!b.isSome || bt (wR (dH l aT) n) (zN aI n) (wR (dH l aT) (b.getD ⟨0, 0, 0, 0⟩)) (zN aI (b.getD ⟨0, 0, 0, 0⟩)))) = true then some n else b := by
  unfold R8
  cases hp : nY l ah aI aT n.ID with
  | false => rfl
  | true =>
    cases b with
    | none => rfl
    | some m =>
      show (if bt _ _ _ _ = true then some n else some m) = if (true && (false || bt _ _ _ _)) = true then some n else some m
      rw [Bool.true_and, Bool.false_or]; rfl
def Bj (old : List Int) (aI : List bP) (b : Option ANode) : Value := match b with | none => .complex .f64 0 0 | some m => .complex .f64 (fb (wR old m)) (N8 (old.contains m.dA) (wZ aI m))
theorem mV {l : List ANode} {ah : List Int} {aI : List bP} {aT : List Int} {M : List ANode} {k : Nat} {n : ANode} (hn : M[k]? = some n) : lG l ah aI aT (M.take (k + 1)) = R8 l ah aI aT (lG l ah aI aT (M.take k)) n := by
  unfold lG; rw [dK hn, List.foldl_append]; rfl
theorem LB {l : List ANode} {ah : List Int} {aI : List bP} {aT : List Int} {n : ANode} (hn : n ∈ l) (h : nY l ah aI aT n.ID = true) : sF l = true ∧ bL l n.ID = n ∧ n.dz = 0 ∧ ah.contains n.ID = true ∧ aT.contains n.ID = false ∧ fJ aI n.ID < n.fI ∧ n.fI ≤ 16 := by
  simp only [nY, Bool.and_eq_true, decide_eq_true_eq, Bool.not_eq_true'] at h
  obtain ⟨⟨⟨⟨h1, h2⟩, h3⟩, h4⟩, h5⟩ := h
  have hm : sF l = true := by
    cases hb : sF l with
    | true => rfl
    | false => unfold bZ at h1; rw [xJ hb] at h1; cases h1
  have h6 : bL l n.ID = n := by
    unfold bZ at h1
    obtain ⟨x, hx, hk⟩ := pV (key := ANode.ID) h1
    rw [uG h1 hx]
    have h3 := bV hx
    rw [DX hm] at h3
    exact D7 (zo _ 0 hm) h3 hn hk
  rw [h6] at h2 h5
  have h7 := (wL _ _ hm n hn).2
  simp only [sD, Bool.and_eq_true, decide_eq_true_eq] at h7
  exact ⟨hm, h6, h2, h3, h4, h5, h7.1.2.2⟩
theorem xL {aI : List bP} (h : ∀ x ∈ aI, 0 ≤ x.N) (id : Int) : 0 ≤ fJ aI id := by
  unfold fJ; split
  · rename_i x hx; exact h x (List.mem_of_find?_eq_some hx)
  · omega
theorem aeN {aI : List bP} (h0 : ∀ x ∈ aI, 0 ≤ x.N) {n : ANode} (h : fJ aI n.ID < n.fI) : wZ aI n = (zN aI n : Int) := by
  have := xL h0 n.ID
  unfold wZ zN; rw [if_neg (by omega)]; omega
theorem Vr {old : List Int} {aI : List bP} (h0 : ∀ x ∈ aI, 0 ≤ x.N) {n : ANode} (h : fJ aI n.ID < n.fI) (h1 : n.fI ≤ 16) : Value.complex .f64 (fb (wR old n)) (N8 (old.contains n.dA) (wZ aI n)) = .complex .f64 (fb (wR old n)) (fb (zN aI n)) := by
  have := xL h0 n.ID
  rw [aeN h0 h, aa6 _ (by unfold zN; omega)]
theorem ZR (old : List Int) (n : ANode) : wR old n < 70 := by unfold wR; split <;> omega
theorem Qr {l : List ANode} {ah : List Int} {aI : List bP} {aT : List Int} : ∀ (M : List ANode) (b : Option ANode), (∀ n ∈ M, n ∈ l) → (∀ m, b = some m → m ∈ l ∧ nY l ah aI aT m.ID = true) → ∀ m, M.foldl (R8 l ah aI aT) b = some m → m ∈ l ∧ nY l ah aI aT m.ID = true
  | [], b, _, hb, m, h => hb m h
  | n :: M, b, hM, hb, m, h => by
    refine Qr M _ (fun x hx => hM x (by simp [hx])) (fun x hx => ?_) m h
    unfold R8 at hx
    by_cases hp : nY l ah aI aT n.ID = true
    · rw [if_pos hp] at hx
      cases b with
      | none => cases hx; exact ⟨hM _ (by simp), hp⟩
      | some q =>
        simp only at hx
        split at hx
        · cases hx; exact ⟨hM _ (by simp), hp⟩
        · cases hx; exact hb _ rfl
    · rw [if_neg hp] at hx; exact hb x hx
theorem R9 {l : List ANode} {ah : List Int} {aI : List bP} {aT : List Int} {old : List Int} (h0 : ∀ x ∈ aI, 0 ≤ x.N) {k : Nat} {m : ANode} (h : lG l ah aI aT (l.take k) = some m) :
    Bj old aI (lG l ah aI aT (l.take k)) = .complex .f64 (fb (wR old m)) (fb (zN aI m)) ∧ zN aI m < 70 := by
  have hm := Qr (l.take k) none (fun n hn => List.mem_of_mem_take hn) (fun m e => by cases e) m h
  have h1 := LB hm.1 hm.2
  have := xL h0 m.ID
  rw [h]
  exact ⟨Vr h0 h1.2.2.2.2.2.1 h1.2.2.2.2.2.2, by unfold zN; omega⟩
theorem ab4 : aM Tryz.prog 130 := fun _ _ => by kernel_rfl
theorem ab5 : aM Tryz.prog 131 := fun _ _ => by kernel_rfl
theorem ab6 : aM Tryz.prog 132 := fun _ _ => by kernel_rfl
theorem ab7 : aM Tryz.prog 133 := fun _ _ => by kernel_rfl
theorem LC {S0 : Nat → Prop} (w : World) {x y : Nat} {u z : Nat} (hb : (x < 70 ∧ y < 70) ∧ u < 70 ∧ z < 70) :
    bY Tryz.prog 133 #[.complex .f64 (fb x) (fb y), .complex .f64 (fb u) (fb z)] w fun v w' => v = .bool (bt x y u z) ∧ Hp w S0 w' [] := by
 refine WP.enter Tryz.func133 Y Tryz.ntmps133 Y ?_
 have H0 := Hp.init w S0
 refine rg <| aR Y <| dn <| WP.seq <| rg <| mv Y <| ev (Ev.real Y) <| mv Y <| ev (Ev.real Y) <| ev (Ev.aie (by omega) (by omega) Y Y) <| dn ?_
 refine WP.aG Y (fun jE => ?_) (fun jE => ?_)
 ·
  replace jE := gJ jE
  refine rg <| mv Y <| ev (Ev.real Y) <| mv Y <| ev (Ev.real Y) <| ev (Ev.aed (by omega) (by omega) Y Y) <| aR Y <| dn ?_
  refine WP.ret (aA.aP (aA.aD Y Y Y ?_))
  have hq1 : (decide (x < u) : Bool) = (bt x y u z) := by unfold bt; rw [if_pos (by simpa using jE)]
  exact ⟨by rw [hq1] <;> rfl, H0⟩
 replace jE := gD jE
 refine WP.skip (aA.norm ?_)
 refine rg <| mv Y <| ev (Ev.imag Y) <| mv Y <| ev (Ev.imag Y) <| ev (Ev.aed (by omega) (by omega) Y Y) <| aR Y <| dn ?_
 refine WP.ret (aA.aD Y Y Y ?_)
 have hq2 : (decide (y < z) : Bool) = (bt x y u z) := by unfold bt; rw [if_neg (by simpa using jE)]
 exact ⟨by rw [hq2] <;> rfl, H0⟩
theorem OB {S0 : Nat → Prop} (w : World) {a b : Value} (x y u z : Nat) (e1 : a = .complex .f64 (fb x) (fb y)) (e2 : b = .complex .f64 (fb u) (fb z)) (hb : (x < 70 ∧ y < 70) ∧ u < 70 ∧ z < 70) :
    bY Tryz.prog 133 #[a, b] w fun v w' => v = .bool (bt x y u z) ∧ Hp w S0 w' [] := by subst e1 e2; exact LC w hb
theorem Sd {S0 : Nat → Prop} (w : World) {d9 : an3} {eu : Nat} {l : List ANode} (dN : Sl tNode S0 w d9 eu l) {cZ : an3} {dh : Nat} {ah : List Int} (cu : Sl tInt S0 w cZ dh ah) {fC : an3} {fD : Nat} {aI : List bP} (fH : Sl fO S0 w fC fD aI) {iF : an3} {iG : Nat} {aT : List Int} (ig : Sl tInt S0 w iF iG aT) (hn : l.length ≤ 100000) (h0 : ∀ x ∈ aI, 0 ≤ x.N) :
    bY Tryz.prog 84 #[.slice d9 l.length eu, .slice cZ ah.length dh, .slice fC aI.length fD, .slice iF aT.length iG] w fun v w' => v = .tuple #[.int .i64 (vR (lG l ah aI aT l)), .bool ((lG l ah aI aT l).isSome)] ∧ Hp w S0 w' [] := by
 refine WP.enter Tryz.func84 Y Tryz.ntmps84 Y ?_
 have H0 := Hp.init w S0
 have iJ := dN.aN
 have iy := cu.aN
 have mP := fH.aN
 have uL := ig.aN
 refine rg <| aR Y <| aR Y <| dn <| rg <| mv Y <| mv Y <| WL.call Y Y Y ab4 (R6 _ (H0.a dN).any (H0.a ig).any (by omega)) Y ?_
 rintro _ w1 ⟨Lc, rfl, h1⟩
 have K1 := H0.f1 h1
 refine aR Y <| dn <| rg <| aR Y <| aR Y <| aR Y <| dn <| WP.seq <| rg <| mv Y <| ev (Ev.len Tryz.underlying22 Y) <| mv Y <| dn <| WP.block ?_
 have hq1 : (0 : Int) = vR (lG l ah aI aT (l.take 0)) := by rfl
 refine WP.re (t := 11) Y (congrArg (Value.int .i64) hq1) ?_
 have hq2 : (.complex .f64 0 0 : Value) = Bj (dH l aT) aI (lG l ah aI aT (l.take 0)) := by rfl
 refine WP.re (t := 12) Y hq2 ?_
 have hq3 : (false : Bool) = (lG l ah aI aT (l.take 0)).isSome := by rfl
 refine WP.re (t := 13) Y (congrArg Value.bool hq3) ?_
 have hq4 : (0 : Int) = ((0 : Nat) : Int) := by simp
 refine WP.re (t := 22) Y (congrArg (Value.int .i64) hq4) <| WP.lp (fun mJ lJ wJ => ∃ (k : Nat), lJ = [(0, .slice d9 l.length eu), (1, .slice cZ ah.length dh), (2, .slice fC aI.length fD), (3, .slice iF aT.length iG), (10, .map (some Lc)), (11, .int .i64 (vR (lG l ah aI aT (l.take k)))), (12, Bj (dH l aT) aI (lG l ah aI aT (l.take k))), (13, .bool ((lG l ah aI aT (l.take k)).isSome)), (20, .slice d9 l.length eu), (21, .int .i64 ((l.length : Nat) : Int)), (22, .int .i64 ((k : Nat) : Int))] ∧ mJ = l.length - k ∧ k ≤ l.length ∧ Hp w S0 wJ [Ut Lc (dH l aT)]) ⟨0, Y, Y, Nat.zero_le _, K1⟩ Y ?_
 rintro _ _ w2 ⟨k, rfl, rfl, hk, K2⟩
 refine rg <| ev (Ev.lss Y Y) <| dn ?_
 refine WP.cond Y (fun jS => ?_) (fun jS => ?_)
 ·
  replace jS := of_decide_eq_true jS
  refine WP.skip (aA.norm ?_)
  refine WP.seq <| WP.block <| rg ?_
  obtain ⟨x1, hx1⟩ := get_some (xs := l) (i := k) (by omega)
  refine ev (Ev.index (i := k) Tryz.underlying22 eO Y Y Y (aC hx1) ((K2.a dN).some_ hx1)) <| ev (Ev.loadRow kU Y Y ((K2.a dN).dx hx1)) ?_
  refine al iM Y K2 fun g1 w3 K3 => ?_
  refine iW Y Y Y eO K3 s0 Y Y fun w4 K4 => ?_
  refine dn <| rg <| ev (Ev.bX kU Y Y (K4.x s0)) <| mv Y <| mv Y ?_
  refine C0 K4 Y Y Y ab5 (R7 _ x1 (K4.a fH).any (K4.obj s1)) fun w5 K5 => ?_
  refine aR Y <| dn <| rg <| mv Y <| mv Y <| mv Y <| mv Y <| ev (Ev.field (q := ⟨g1, 0, none⟩) dV Y Y) <| ev (Ev.aj bf Y (K5.x s0) Y) ?_
  refine C0 K5 Y Y Y ab6 (YT _ (K5.a dN).any (K5.a cu).any (K5.a fH).any (K5.a ig).any x1.ID (by omega)) fun w6 K6 => ?_
  refine mv Y ?_
  refine WL.oI 8 45 ((nY l ah aI aT x1.ID) && ((!((lG l ah aI aT (l.take k)).isSome)) || (bt (wR (dH l aT) x1) (zN aI x1) (wR (dH l aT) ((lG l ah aI aT (l.take k)).getD ⟨0, 0, 0, 0⟩)) (zN aI ((lG l ah aI aT (l.take k)).getD ⟨0, 0, 0, 0⟩))))) ?_ ?_
  ·
   cases yQ : nY l ah aI aT x1.ID with
   | true =>
    have hp1 := LB (bV hx1) yQ
    have hzn : zN aI x1 < 70 := by have h1 := xL h0 x1.ID; have h2 := hp1.2.2.2.2.2; unfold zN; omega
    refine WL.bF Y (Ev.move Y) Y <| WL.bF Y (Ev.not Y) Y <| WL.bF Y (Ev.move Y) Y ?_
    refine WL.oI 4 44 ((!((lG l ah aI aT (l.take k)).isSome)) || (bt (wR (dH l aT) x1) (zN aI x1) (wR (dH l aT) ((lG l ah aI aT (l.take k)).getD ⟨0, 0, 0, 0⟩)) (zN aI ((lG l ah aI aT (l.take k)).getD ⟨0, 0, 0, 0⟩)))) ?_ ?_
    ·
     cases I9 : (!((lG l ah aI aT (l.take k)).isSome)) with
     | true =>
      refine WL.pass Y Y Y <| WL.pass Y Y Y <| WL.pass Y Y Y <| WL.bF Y (Ev.bq Y Y) Y ?_
      exact WL.iY Y (Ext.refl _)
     | false =>
      have hlv := R9 (old := dH l aT) h0 (k := k) (getD_some I9)
      refine WL.bF Y (Ev.move Y) Y <| WL.bF Y (Ev.move Y) Y <| WL.jd Y Y Y Y ab7 (OB (S0 := Any) _ (wR (dH l aT) x1) (zN aI x1) (wR (dH l aT) ((lG l ah aI aT (l.take k)).getD ⟨0, 0, 0, 0⟩)) (zN aI ((lG l ah aI aT (l.take k)).getD ⟨0, 0, 0, 0⟩)) (Vr h0 hp1.2.2.2.2.2.1 hp1.2.2.2.2.2.2) hlv.1 ⟨⟨ZR _ _, hzn⟩, ZR _ _, hlv.2⟩) Y ?_
      rintro _ w7 ⟨rfl, h7⟩
      have K7 := K6.c0 h7
      refine WL.bF Y (Ev.bn Y Y) Y ?_
      exact WL.iY Y h7.ext
    intro w8 e8
    have K8 := K6.grow e8
    refine ev (Ev.bq Y Y) ?_
    exact WL.iY Y e8
   | false =>
    refine WL.pass Y Y Y <| WL.pass Y Y Y <| WL.pass Y Y Y <| WL.pass Y Y Y <| WL.pass Y Y Y <| WL.pass Y Y Y <| WL.pass Y Y Y <| ev (Ev.bn Y Y) ?_
    exact WL.iY Y (Ext.refl _)
  intro w9 e9
  have K9 := K6.grow e9
  refine dn ?_
  refine WP.aG Y (fun qg => ?_) (fun qg => ?_)
  ·
   refine eP <| ev (Ev.field (q := ⟨g1, 0, none⟩) dV Y Y) <| ev (Ev.aj bf Y (K9.x s0) Y) <| mv Y <| aR Y <| aR Y <| aR Y <| eT <| aA.aS (aA.norm ?_)
   refine eP <| ev (Ev.add Y Y (eX.mk (by omega) (by omega))) <| mv Y <| eT ?_
   have kP : (x1.ID : Int) = vR (lG l ah aI aT (l.take (k + 1))) := by rw [mV hx1, Bh]; first | (rw [if_pos qg]; rfl) | rw [if_neg (by rw [qg]; decide)]
   refine aA.re (t := 11) Y (congrArg (Value.int .i64) kP) ?_
   have ny : (.complex .f64 (fb (wR (dH l aT) x1)) (N8 ((dH l aT).contains x1.dA) (wZ aI x1)) : Value) = Bj (dH l aT) aI (lG l ah aI aT (l.take (k + 1))) := by rw [mV hx1, Bh]; first | (rw [if_pos qg]; rfl) | rw [if_neg (by rw [qg]; decide)]
   refine aA.re (t := 12) Y ny ?_
   have kT : (true : Bool) = (lG l ah aI aT (l.take (k + 1))).isSome := by rw [mV hx1, Bh]; first | (rw [if_pos qg]; rfl) | rw [if_neg (by rw [qg]; decide)]
   refine aA.re (t := 13) Y (congrArg Value.bool kT) ?_
   have hq8 : (((k + 1 : Nat) : Int) : Int) = (((k + 1) : Nat) : Int) := by simp
   refine aA.re (t := 22) Y (congrArg (Value.int .i64) hq8) ?_
   exact aA.ag ⟨(k + 1), Y, Y, by omega, (K9.rm s0)⟩ rfl (by omega)
  refine WP.skip (aA.aS (aA.norm ?_))
  refine eP <| ev (Ev.add Y Y (eX.mk (by omega) (by omega))) <| mv Y <| eT ?_
  have uj : (vR (lG l ah aI aT (l.take k)) : Int) = vR (lG l ah aI aT (l.take (k + 1))) := by rw [mV hx1, Bh]; first | (rw [if_pos qg]; rfl) | rw [if_neg (by rw [qg]; decide)]
  refine aA.re (t := 11) Y (congrArg (Value.int .i64) uj) ?_
  have jK : (Bj (dH l aT) aI (lG l ah aI aT (l.take k)) : Value) = Bj (dH l aT) aI (lG l ah aI aT (l.take (k + 1))) := by rw [mV hx1, Bh]; first | (rw [if_pos qg]; rfl) | rw [if_neg (by rw [qg]; decide)]
  refine aA.re (t := 12) Y jK ?_
  have hq11 : ((lG l ah aI aT (l.take k)).isSome : Bool) = (lG l ah aI aT (l.take (k + 1))).isSome := by rw [mV hx1, Bh]; first | (rw [if_pos qg]; rfl) | rw [if_neg (by rw [qg]; decide)]
  refine aA.re (t := 13) Y (congrArg Value.bool hq11) ?_
  have hq12 : (((k + 1 : Nat) : Int) : Int) = (((k + 1) : Nat) : Int) := by simp
  refine aA.re (t := 22) Y (congrArg (Value.int .i64) hq12) ?_
  exact aA.ag ⟨(k + 1), Y, Y, by omega, (K9.rm s0)⟩ rfl (by omega)
 replace jS := of_decide_eq_false jS
 refine WP.exit (aA.aF (aA.aF (aA.bS (aA.norm ?_))))
 refine rg <| mv Y <| mv Y <| aR Y <| aR Y <| dn ?_
 refine WP.ret (aA.aD Y Y Y ?_)
 have qY : (vR (lG l ah aI aT (l.take k)) : Int) = (vR (lG l ah aI aT l)) := by rw [List.take_of_length_le (by omega)]
 have Bf : ((lG l ah aI aT (l.take k)).isSome : Bool) = ((lG l ah aI aT l).isSome) := by rw [List.take_of_length_le (by omega)]
 exact ⟨by rw [qY, Bf] <;> rfl, (K2.rm s0)⟩
end Go.Proofs.YtjcklpooaaaglaaGreat
set_option maxRecDepth 4000
set_option linter.all false
namespace Go.Proofs.YtjcklpooaaaglaaGreat
open Go.RowKit
def gL (c : AChunk) (ah : List Int) : List Int := c.av.filter fun (id : Int) => ah.contains id
def Ef (l : List ANode) (id : Int) : Bool := bZ l id && decide ((bL l id).dz = 0)
def bR (c : AChunk) (l : List ANode) (ah : List Int) : List Int := (gL c ah).filter fun (id : Int) => Ef l id
def Si (l : List ANode) (ah : List Int) (id : Int) : Bool := (bZ l id && !decide ((bL l id).dz = 0)) && ah.contains id
def uM (c : AChunk) (l : List ANode) (ah : List Int) : List Int := c.av.filter fun (id : Int) => Si l ah id
theorem wP (c : AChunk) (ah : List Int) : (gL c ah).length ≤ c.av.length := List.length_filter_le _ _
theorem G6 (c : AChunk) (l : List ANode) (ah : List Int) : (bR c l ah).length ≤ (gL c ah).length := List.length_filter_le _ _
theorem ab8 : aM Tryz.prog 114 := fun _ _ => by kernel_rfl
theorem Qs : aM Tryz.prog 69 := fun _ _ => by kernel_rfl
theorem aeO : aM Tryz.prog 70 := fun _ _ => by kernel_rfl
theorem ab9 : aM Tryz.prog 173 := fun _ _ => by kernel_rfl
theorem Vs {S0 : Nat → Prop} (w : World) (id : Int) {rD : Nat} {cZ : an3} {dh : Nat} {ah : List Int} (cu : Bx w rD 51 [.slice cZ ah.length dh]) (rE : Sl tInt S0 w cZ dh ah) :
    bY Tryz.prog 114 #[.int .i64 id, .pointer (some ⟨rD, 0, none⟩)] w fun v w' => v = .bool (!(ah.contains id)) ∧ Hp w S0 w' [] := by
 refine WP.enter Tryz.func114 Y Tryz.ntmps114 Y ?_
 have H0 := Hp.init w S0
 have iy := rE.aN
 refine rg <| aR Y <| dn <| rg <| ev (Ev.aj gK Y (cu.ext H0.ext) Y) <| mv Y ?_
 refine C0 H0 Y Y Y yx (iq _ (H0.a rE).any id) fun w1 K1 => ?_
 refine ev (Ev.not Y) <| aR Y <| dn ?_
 refine WP.ret (aA.aD Y Y Y ?_)
 exact ⟨Y, K1⟩
theorem CZ {S0 : Nat → Prop} (w : World) (c : AChunk) {kR : an3} {kS : Nat} (nC : Sl tInt S0 w kR kS c.av) {cZ : an3} {dh : Nat} {ah : List Int} (cu : Sl tInt S0 w cZ dh ah) (hh : c.av.length ≤ 100000) :
    bY Tryz.prog 69 #[.agg #[.int .i64 c.ID, .int .i64 c.ay, .int .u32 c.Sum, .slice kR c.av.length kS], .slice cZ ah.length dh] w fun v w' => ∃ (A0 : an3) (c0 : Nat), v = .slice A0 ((gL c ah).length) c0 ∧ Hp w S0 w' [aQ tInt 3 A0 c0 (gL c ah)] := by
 refine WP.enter Tryz.func69 Y Tryz.ntmps69 Y ?_
 have H0 := Hp.init w S0
 have iy := cu.aN
 refine rg ?_
 refine bx Y Y H0 fun g1 w1 K1 => ?_
 refine bx Y Y K1 fun g2 w2 K2 => ?_
 refine aR Y <| dn <| rg <| ev (Ev.field (q := ⟨g1, 3, none⟩) fT Y Y) <| ev (Ev.aj gK Y (K2.x s1) Y) <| WL.call Y Y Y KN (o7 _ (K2.a nC).any (by omega)) Y ?_
 rintro _ w3 ⟨qW, qX, rfl, h3⟩
 have K3 := K2.f1 h3
 have Qt := (K3.o s0).aN
 refine ev (Ev.func Y) <| WL.call Y Y Y GU (jG (kd := [.pointer (some ⟨g2, 0, none⟩)]) (K3.sel s0) ab8 (fun x9 => !(ah.contains x9)) (fun w9 ys x9 YK K9 => (Vs (S0 := Any) w9 x9 (K9.x s1) (K9.a cu).any).mono (by rintro _ w8 ⟨rfl, K8⟩; exact ⟨rfl, K8.ext⟩)) (by omega)) rfl ?_
 rintro _ w4 ⟨rfl, K4⟩
 refine aR Y <| dn ?_
 refine WP.ret (aA.aD Y Y Y ?_)
 have hq1 : ((c.av.filter fun x9 => !(!(ah.contains x9))) : List Int) = (gL c ah) := by unfold gL; simp only [Bool.not_not]
 rw [hq1] at K4
 exact ⟨qW, qX, by rw [hq1] <;> rfl, ((K4.rm s2).rm s1)⟩
theorem Sj {S0 : Nat → Prop} (w : World) (id : Int) {Vt : Nat} {d9 : an3} {eu : Nat} {l : List ANode} (dN : Bx w Vt 22 [.slice d9 l.length eu]) (OC : Sl tNode S0 w d9 eu l) (hn : l.length ≤ 100000) :
    bY Tryz.prog 70 #[.int .i64 id, .pointer (some ⟨Vt, 0, none⟩)] w fun v w' => v = .bool (!(Ef l id)) ∧ Hp w S0 w' [] := by
 refine WP.enter Tryz.func70 Y Tryz.ntmps70 Y ?_
 have H0 := Hp.init w S0
 have iJ := OC.aN
 refine rg <| aR Y <| dn <| rg <| ev (Ev.aj lS Y (dN.ext H0.ext) Y) <| mv Y ?_
 refine C0 H0 Y Y Y GV (tL _ (H0.a OC).any id (by omega)) fun w1 K1 => ?_
 refine mv Y <| xt Y Y <| xt Y Y ?_
 refine al iM Y K1 fun g1 w2 K2 => ?_
 refine iW Y Y Y eO K2 s0 Y Y fun w3 K3 => ?_
 refine aR Y <| dn <| rg <| mv Y <| ev (Ev.not Y) <| mv Y ?_
 refine WL.dR 4 18 ((!(bZ l id)) || (!decide ((bL l id).dz = 0))) ?_ ?_
 ·
  cases aeP : (!(bZ l id)) with
  | true =>
   refine WL.pass Y Y Y <| WL.pass Y Y Y <| WL.pass Y Y Y <| ev (Ev.bq Y Y) ?_
   exact WL.bM Y
  | false =>
   refine WL.bF Y (Ev.field (q := ⟨g1, 3, none⟩) nU Y Y) Y <| WL.bF Y (Ev.aj bf Y (K3.x s0) Y) Y <| WL.bF Y (Ev.neq Y Y) Y ?_
   refine ev (Ev.bn Y Y) ?_
   exact WL.bM Y
 refine aR Y <| dn ?_
 refine WP.ret (aA.aD Y Y Y ?_)
 have hq1 : (((!(bZ l id)) || (!decide ((bL l id).dz = 0))) : Bool) = (!(Ef l id)) := by unfold Ef; cases bZ l id <;> simp
 exact ⟨by rw [hq1] <;> rfl, (K3.rm s0)⟩
theorem Eh {S0 : Nat → Prop} (w : World) (c : AChunk) {kR : an3} {kS : Nat} (nC : Sl tInt S0 w kR kS c.av) {d9 : an3} {eu : Nat} {l : List ANode} (dN : Sl tNode S0 w d9 eu l) {cZ : an3} {dh : Nat} {ah : List Int} (cu : Sl tInt S0 w cZ dh ah) (hh : c.av.length ≤ 100000) (hn : l.length ≤ 100000) :
    bY Tryz.prog 27 #[.agg #[.int .i64 c.ID, .int .i64 c.ay, .int .u32 c.Sum, .slice kR c.av.length kS], .slice d9 l.length eu, .slice cZ ah.length dh] w fun v w' => ∃ (A0 : an3) (c0 : Nat), v = .slice A0 ((bR c l ah).length) c0 ∧ Hp w S0 w' [aQ tInt 3 A0 c0 (bR c l ah)] := by
 refine WP.enter Tryz.func27 Y Tryz.ntmps27 Y ?_
 have H0 := Hp.init w S0
 have iJ := dN.aN
 have iy := cu.aN
 have hll := wP c ah
 refine rg ?_
 refine bx Y Y H0 fun g1 w1 K1 => ?_
 refine bx Y Y K1 fun g2 w2 K2 => ?_
 refine aR Y <| dn <| rg <| ev (Ev.bX gQ Y Y (K2.x s1)) <| mv Y <| WL.call Y Y Y Qs (CZ _ c (K2.a nC).any (K2.a cu).any (by omega)) Y ?_
 rintro _ w3 ⟨qW, qX, rfl, h3⟩
 have K3 := K2.f1 h3
 have Qt := (K3.o s0).aN
 refine ev (Ev.func Y) <| WL.call Y Y Y GU (jG (kd := [.pointer (some ⟨g2, 0, none⟩)]) (K3.sel s0) aeO (fun x9 => !(Ef l x9)) (fun w9 ys x9 YK K9 => (Sj (S0 := Any) w9 x9 (K9.x s1) (K9.a dN).any (by omega)).mono (by rintro _ w8 ⟨rfl, K8⟩; exact ⟨rfl, K8.ext⟩)) (by omega)) rfl ?_
 rintro _ w4 ⟨rfl, K4⟩
 refine aR Y <| dn ?_
 refine WP.ret (aA.aD Y Y Y ?_)
 have hq1 : (((gL c ah).filter fun x9 => !(!(Ef l x9))) : List Int) = (bR c l ah) := by unfold bR; simp only [Bool.not_not]
 rw [hq1] at K4
 exact ⟨qW, qX, by rw [hq1] <;> rfl, ((K4.rm s2).rm s1)⟩
theorem Sm {S0 : Nat → Prop} (w : World) (id : Int) {Vt : Nat} {d9 : an3} {eu : Nat} {l : List ANode} (dN : Bx w Vt 22 [.slice d9 l.length eu]) (OC : Sl tNode S0 w d9 eu l) {rD : Nat} {cZ : an3} {dh : Nat} {ah : List Int} (cu : Bx w rD 51 [.slice cZ ah.length dh]) (rE : Sl tInt S0 w cZ dh ah) (hn : l.length ≤ 100000) :
    bY Tryz.prog 173 #[.int .i64 id, .pointer (some ⟨Vt, 0, none⟩), .pointer (some ⟨rD, 0, none⟩)] w fun v w' => v = .bool (!(Si l ah id)) ∧ Hp w S0 w' [] := by
 refine WP.enter Tryz.func173 Y Tryz.ntmps173 Y ?_
 have H0 := Hp.init w S0
 have iJ := OC.aN
 have iy := rE.aN
 refine rg <| aR Y <| dn <| rg <| ev (Ev.aj lS Y (dN.ext H0.ext) Y) <| mv Y ?_
 refine C0 H0 Y Y Y GV (tL _ (H0.a OC).any id (by omega)) fun w1 K1 => ?_
 refine mv Y <| xt Y Y <| xt Y Y ?_
 refine al iM Y K1 fun g1 w2 K2 => ?_
 refine iW Y Y Y eO K2 s0 Y Y fun w3 K3 => ?_
 refine aR Y <| dn <| rg <| mv Y <| ev (Ev.not Y) <| mv Y ?_
 refine WL.dR 4 19 ((!(bZ l id)) || (decide ((bL l id).dz = 0))) ?_ ?_
 ·
  cases IV : (!(bZ l id)) with
  | true =>
   refine WL.pass Y Y Y <| WL.pass Y Y Y <| WL.pass Y Y Y <| ev (Ev.bq Y Y) ?_
   exact WL.bM Y
  | false =>
   refine WL.bF Y (Ev.field (q := ⟨g1, 3, none⟩) nU Y Y) Y <| WL.bF Y (Ev.aj bf Y (K3.x s0) Y) Y <| WL.bF Y (Ev.eql Y Y) Y ?_
   refine ev (Ev.bn Y Y) ?_
   exact WL.bM Y
 refine mv Y ?_
 refine WL.oI 5 25 (((!(bZ l id)) || (decide ((bL l id).dz = 0))) || (!(ah.contains id))) ?_ ?_
 ·
  cases UF : ((!(bZ l id)) || (decide ((bL l id).dz = 0))) with
  | true =>
   refine WL.pass Y Y Y <| WL.pass Y Y Y <| WL.pass Y Y Y <| WL.pass Y Y Y <| ev (Ev.bq Y Y) ?_
   exact WL.iY Y (Ext.refl _)
  | false =>
   have UG := UF
   try simp only [an4, an5, an6, an7, an8, an9, aoa, aob] at UG
   refine WL.bF Y (Ev.aj gK Y (cu.ext K3.ext) Y) Y <| WL.bF Y (Ev.move Y) Y <| WL.jd Y Y Y Y yx (iq _ (K3.a rE).any id) Y ?_
   rintro _ w4 ⟨rfl, h4⟩
   have K4 := K3.c0 h4
   refine WL.bF Y (Ev.not Y) Y <| ev (Ev.bn Y Y) ?_
   exact WL.iY Y h4.ext
 intro w5 e5
 have K5 := K3.grow e5
 refine aR Y <| dn ?_
 refine WP.ret (aA.aD Y Y Y ?_)
 have hq1 : ((((!(bZ l id)) || (decide ((bL l id).dz = 0))) || (!(ah.contains id))) : Bool) = (!(Si l ah id)) := by unfold Si; cases bZ l id <;> simp
 exact ⟨by rw [hq1] <;> rfl, (K5.rm s0)⟩
theorem Vu {S0 : Nat → Prop} (w : World) (c : AChunk) {kR : an3} {kS : Nat} (nC : Sl tInt S0 w kR kS c.av) {d9 : an3} {eu : Nat} {l : List ANode} (dN : Sl tNode S0 w d9 eu l) {cZ : an3} {dh : Nat} {ah : List Int} (cu : Sl tInt S0 w cZ dh ah) (hh : c.av.length ≤ 100000) (hn : l.length ≤ 100000) :
    bY Tryz.prog 138 #[.agg #[.int .i64 c.ID, .int .i64 c.ay, .int .u32 c.Sum, .slice kR c.av.length kS], .slice d9 l.length eu, .slice cZ ah.length dh] w fun v w' => ∃ (A0 : an3) (c0 : Nat), v = .slice A0 ((uM c l ah).length) c0 ∧ Hp w S0 w' [aQ tInt 3 A0 c0 (uM c l ah)] := by
 refine WP.enter Tryz.func138 Y Tryz.ntmps138 Y ?_
 have H0 := Hp.init w S0
 have iJ := dN.aN
 have iy := cu.aN
 refine rg ?_
 refine bx Y Y H0 fun g1 w1 K1 => ?_
 refine bx Y Y K1 fun g2 w2 K2 => ?_
 refine bx Y Y K2 fun g3 w3 K3 => ?_
 refine aR Y <| dn <| rg <| ev (Ev.field (q := ⟨g1, 3, none⟩) fT Y Y) <| ev (Ev.aj gK Y (K3.x s2) Y) <| WL.call Y Y Y KN (o7 _ (K3.a nC).any (by omega)) Y ?_
 rintro _ w4 ⟨sG, sH, rfl, h4⟩
 have K4 := K3.f1 h4
 have GX := (K4.o s0).aN
 refine ev (Ev.func Y) <| WL.call Y Y Y GU (jG (kd := [.pointer (some ⟨g2, 0, none⟩), .pointer (some ⟨g3, 0, none⟩)]) (K4.sel s0) ab9 (fun x9 => !(Si l ah x9)) (fun w9 ys x9 YK K9 => (Sm (S0 := Any) w9 x9 (K9.x s2) (K9.a dN).any (K9.x s1) (K9.a cu).any (by omega)).mono (by rintro _ w8 ⟨rfl, K8⟩; exact ⟨rfl, K8.ext⟩)) (by omega)) rfl ?_
 rintro _ w5 ⟨rfl, K5⟩
 refine aR Y <| dn ?_
 refine WP.ret (aA.aD Y Y Y ?_)
 have hq1 : ((c.av.filter fun x9 => !(!(Si l ah x9))) : List Int) = (uM c l ah) := by unfold uM; simp only [Bool.not_not]
 rw [hq1] at K5
 exact ⟨sG, sH, by rw [hq1] <;> rfl, (((K5.rm s3).rm s2).rm s1)⟩
theorem LD {S0 : Nat → Prop} (w : World) {d9 : an3} {eu : Nat} {l : List ANode} (dN : Sl tNode S0 w d9 eu l) (id : Int) (hn : l.length ≤ 100000) :
    bY Tryz.prog 139 #[.slice d9 l.length eu, .int .i64 id] w fun v w' => v = .int .i64 ((bL l id).dA) ∧ Hp w S0 w' [] := by
 refine WP.enter Tryz.func139 Y Tryz.ntmps139 Y ?_
 have H0 := Hp.init w S0
 have iJ := dN.aN
 refine rg <| aR Y <| dn <| rg <| mv Y <| mv Y ?_
 refine C0 H0 Y Y Y GV (tL _ (H0.a dN).any id (by omega)) fun w1 K1 => ?_
 refine mv Y <| xt Y Y <| xt Y Y ?_
 refine al iM Y K1 fun g1 w2 K2 => ?_
 refine iW Y Y Y eO K2 s0 Y Y fun w3 K3 => ?_
 refine aR Y <| dn <| rg <| ev (Ev.field (q := ⟨g1, 1, none⟩) l7 Y Y) <| ev (Ev.aj bf Y (K3.x s0) Y) <| aR Y <| dn ?_
 refine WP.ret (aA.aD Y Y Y ?_)
 exact ⟨Y, (K3.rm s0)⟩
end Go.Proofs.YtjcklpooaaaglaaGreat
set_option maxRecDepth 4000
set_option linter.all false
namespace Go.Proofs.YtjcklpooaaaglaaGreat
open Go.RowKit
theorem Sn {s : List (Int × Int)} {z v y : Int} : (uz s z v).find? (fun p => decide (p.1 = y)) = if y = z then some (z, v) else s.find? (fun p => decide (p.1 = y)) := by
  have hA : y ≠ z → ∀ s : List (Int × Int), (s.map (fun p => if p.1 = z then (z, v) else p)).find? (fun p => decide (p.1 = y)) = s.find? (fun p => decide (p.1 = y)) := by
    intro hy s
    induction s with
    | nil => rfl
    | cons p s ih =>
      rw [List.map_cons]
      by_cases e : p.1 = z
      · rw [if_pos e, List.find?_cons_of_neg (by simp; omega), List.find?_cons_of_neg (by simp; omega), ih]
      · rw [if_neg e]
        by_cases e2 : p.1 = y
        · rw [List.find?_cons_of_pos (by simpa using e2), List.find?_cons_of_pos (by simpa using e2)]
        · rw [List.find?_cons_of_neg (by simpa using e2), List.find?_cons_of_neg (by simpa using e2), ih]
  have hB : ∀ s : List (Int × Int), s.any (fun p => decide (p.1 = z)) = true → (s.map (fun p => if p.1 = z then (z, v) else p)).find? (fun p => decide (p.1 = z)) = some (z, v) := by
    intro s
    induction s with
    | nil => intro h; cases h
    | cons p s ih =>
      intro h
      rw [List.map_cons]
      by_cases e : p.1 = z
      · rw [if_pos e, List.find?_cons_of_pos (by simp)]
      · rw [if_neg e, List.find?_cons_of_neg (by simpa using e)]
        exact ih (by simpa [e] using h)
  unfold uz
  split
  · rename_i h
    by_cases hy : y = z
    · subst hy; rw [if_pos rfl, hB s h]
    · rw [if_neg hy, hA hy s]
  · rename_i h
    have hn : ∀ p ∈ s, ¬ p.1 = z := fun p hp e => h (List.any_eq_true.2 ⟨p, hp, by simpa using e⟩)
    rw [List.find?_append]
    by_cases hy : y = z
    · subst hy; rw [if_pos rfl, List.find?_eq_none.2 (fun p hp => by simpa using hn p hp)]; simp
    · rw [if_neg hy]
      cases hf : s.find? (fun p => decide (p.1 = y)) with
      | some p => rfl
      | none => simp; omega
theorem Vv (s : List (Int × Int)) (z v y : Int) : qV (uz s z v) y = if y = z then v else qV s y := by
  unfold qV; rw [Sn]
  by_cases hy : y = z
  · rw [if_pos hy, if_pos hy]
  · rw [if_neg hy, if_neg hy]
abbrev NH (l : List ANode) (id : Int) : Int := (bL l id).dA
def cntF (l : List ANode) (s : List (Int × Int)) (id : Int) : List (Int × Int) := uz s (NH l id) (qV s (NH l id) + 1)
def ji (l : List ANode) (ids : List Int) : List (Int × Int) := ids.foldl (cntF l) []
theorem Sr {l : List ANode} {ids : List Int} {k : Nat} {x : Int} (hx : ids[k]? = some x) : ji l (ids.take (k + 1)) = cntF l (ji l (ids.take k)) x := by
  unfold ji; rw [dK hx, List.foldl_append]; rfl
theorem Bl (l : List ANode) : ∀ (ids : List Int) (s : List (Int × Int)), l6 s → l6 (ids.foldl (cntF l) s) ∧ ∀ r, qV (ids.foldl (cntF l) s) r = qV s r + ((ids.filter fun (id : Int) => decide (NH l id = r)).length : Int)
  | [], s, h => ⟨h, fun r => by simp⟩
  | id :: ids, s, h => by
    have ih := Bl l ids (cntF l s id) (RH h _ _)
    refine ⟨ih.1, fun r => ?_⟩
    rw [List.foldl_cons, ih.2 r]
    unfold cntF
    rw [Vv, List.filter_cons]
    by_cases e : r = NH l id
    · rw [if_pos e, if_pos (by simpa using e.symm), List.length_cons, e]; omega
    · rw [if_neg e, if_neg (by simpa using fun h => e h.symm)]
theorem Bn (l : List ANode) (ids : List Int) : l6 (ji l ids) := (Bl l ids [] List.Pairwise.nil).1
theorem LG (l : List ANode) (ids : List Int) (r : Int) : qV (ji l ids) r = ((ids.filter fun (id : Int) => decide (NH l id = r)).length : Int) := by
  have := (Bl l ids [] List.Pairwise.nil).2 r
  show qV (ids.foldl (cntF l) []) r = _
  rw [this]; show (0 : Int) + _ = _; omega
theorem YU (l : List ANode) (ids : List Int) (r : Int) : 0 ≤ qV (ji l ids) r ∧ qV (ji l ids) r ≤ ids.length := by
  rw [LG]; have := List.length_filter_le (fun (id : Int) => decide (NH l id = r)) ids; omega
def Mp (w : World) (g : Nat) (s : List (Int × Int)) : Prop := w.heap[g]? = some (.map (pW s) s.length)
theorem Mp.ext {w w' : World} {g : Nat} {s : List (Int × Int)} (h : Mp w g s) (e : Ext w w') : Mp w' g s := (e.block g (Array.getElem?_eq_some_iff.1 h).1).trans h
def Ja (on : List (Int × Int)) (l : List ANode) (id : Int) : Bool := decide (1 < qV on (NH l id))
def sS (on : List (Int × Int)) (l : List ANode) (aI : List bP) (a b : Int) : Int := if (Ja on l a != Ja on l b) && Ja on l a then 1 else if Ja on l a != Ja on l b then -1 else zx [dP (fJ aI a) (fJ aI b), dP a b]
def jL (cf : Int → Int → Int) : List Int → Int
  | [] => 0
  | x :: l => l.foldl (fun m y => if 0 < cf y m then y else m) x
theorem LH {cf : Int → Int → Int} {l : List Int} {x : Int} (hx : l[0]? = some x) : jL cf (l.take 1) = x := by
  cases l with
  | nil => simp at hx
  | cons y l => simp at hx; subst hx; simp [jL]
theorem xM {cf : Int → Int → Int} {l : List Int} {k : Nat} {x : Int} (hk : 1 ≤ k) (hx : l[k]? = some x) : jL cf (l.take (k + 1)) = if 0 < cf x (jL cf (l.take k)) then x else jL cf (l.take k) := by
  rw [dK hx]
  cases hl : l.take k with
  | nil => have h1 := congrArg List.length hl; have h2 := aC hx; simp only [List.length_take, List.length_nil] at h1; omega
  | cons y m => simp [jL]; rfl
def dX (c : AChunk) (l : List ANode) (ah : List Int) (aI : List bP) (aJ : Int) : Int × Bool :=
  if aJ < 1 ∨ ((bR c l ah).length : Int) < aJ then (0, false) else
  match uM c l ah with
  | i :: _ => (i, true)
  | [] => if ((bR c l ah).length : Int) = aJ then (0, false) else (jL (sS (ji l (bR c l ah)) l aI) (bR c l ah), true)
theorem Vw : kH Tryz.prog 175 := fun _ => by kernel_rfl
theorem Vx : aM Tryz.prog 139 := fun _ _ => by kernel_rfl
theorem Vy : ∀ w, (zeroValue 3).run Tryz.prog w = .ok (.int .i64 0) w := fun _ => by kernel_rfl
theorem Ei : kH Tryz.prog 105 := fun _ => by kernel_rfl
theorem Ej : aM Tryz.prog 140 := fun _ _ => by kernel_rfl
theorem Em {S0 : Nat → Prop} (w : World) (id : Int) {Vz g_m : Nat} (on : List (Int × Int)) (ko : l6 on) (OD : Bx w Vz 175 [.map (some g_m)]) (h_m : Mp w g_m on) {Vt : Nat} {d9 : an3} {eu : Nat} {l : List ANode} (dN : Bx w Vt 22 [.slice d9 l.length eu]) (OC : Sl tNode S0 w d9 eu l) (hn : l.length ≤ 100000) :
    bY Tryz.prog 140 #[.int .i64 id, .pointer (some ⟨Vz, 0, none⟩), .pointer (some ⟨Vt, 0, none⟩)] w fun v w' => v = .bool (Ja on l id) ∧ Hp w S0 w' [] := by
 refine WP.enter Tryz.func140 Y Tryz.ntmps140 Y ?_
 have H0 := Hp.init w S0
 have iJ := OC.aN
 refine rg <| aR Y <| dn <| WP.draw (by kernel_rfl) (by kernel_rfl) <| WQ.ev (Ev.aj Vw Y (OD.ext H0.ext) Y) Y <| WQ.ev (Ev.aj lS Y (dN.ext H0.ext) Y) Y <| WQ.ev (Ev.move Y) Y <| WQ.call (v := .int .i64 ((bL l id).dA)) Y Y Y Vx (fun wq eq => (LD wq ((H0.a OC).any.ext eq) id (by omega)).mono (by rintro _ _ ⟨rfl, hq2⟩; exact ⟨rfl, hq2.ext⟩)) rfl <| WQ.ev (Ev.Zx (H0.was h_m) ko Tryz.underlying175 Tryz.underlying3 Vy rfl rfl) rfl <| WQ.ev (Ev.gtr rfl rfl) rfl <| WQ.ev (Ev.assign rfl) rfl ?_
 refine WQ.done fun w1 e1 => ?_
 have K1 := H0.grow e1
 refine WP.ret (aA.aD Y Y Y ?_)
 have hq1 : (decide (1 < (qV on ((bL l id).dA))) : Bool) = (Ja on l id) := by rfl
 exact ⟨by rw [hq1] <;> rfl, K1⟩
theorem YV {S0 : Nat → Prop} (w : World) (a : Int) (b : Int) {Vz g_m : Nat} (on : List (Int × Int)) (ko : l6 on) (OD : Bx w Vz 175 [.map (some g_m)]) (h_m : Mp w g_m on) {Vt : Nat} {d9 : an3} {eu : Nat} {l : List ANode} (dN : Bx w Vt 22 [.slice d9 l.length eu]) (OC : Sl tNode S0 w d9 eu l) {aeR : Nat} (VA : Bx w aeR 105 [.func (.func 140) #[] #[.pointer (some ⟨Vz, 0, none⟩), .pointer (some ⟨Vt, 0, none⟩)]]) {rG : Nat} {fC : an3} {fD : Nat} {aI : List bP} (fH : Bx w rG 130 [.slice fC aI.length fD]) (nW : Sl fO S0 w fC fD aI) (hn : l.length ≤ 100000) :
    bY Tryz.prog 142 #[.int .i64 a, .int .i64 b, .pointer (some ⟨aeR, 0, none⟩), .pointer (some ⟨rG, 0, none⟩)] w fun v w' => v = .int .i64 (sS on l aI a b) ∧ Hp w S0 w' [] := by
 refine WP.enter Tryz.func142 Y Tryz.ntmps142 Y ?_
 have H0 := Hp.init w S0
 have iJ := OC.aN
 have mP := nW.aN
 refine rg <| aR Y <| dn <| WP.seq <| WP.block <| WP.draw (by kernel_rfl) (by kernel_rfl) <| WQ.ev (Ev.aj Ei Y (VA.ext H0.ext) Y) Y <| WQ.ev (Ev.move Y) Y <| WQ.call (v := .bool (Ja on l a)) Y Y Y Ej (fun wq eq => (Em wq a on ko ((OD.ext H0.ext).ext eq) ((h_m.ext H0.ext).ext eq) ((dN.ext H0.ext).ext eq) ((H0.a OC).any.ext eq) (by omega)).mono (by rintro _ _ ⟨rfl, hq2⟩; exact ⟨rfl, hq2.ext⟩)) rfl <| WQ.ev (Ev.aj Ei rfl (VA.ext H0.ext) rfl) rfl <| WQ.ev (Ev.move rfl) rfl <| WQ.call (v := .bool (Ja on l b)) rfl rfl rfl Ej (fun wq eq => (Em wq b on ko ((OD.ext H0.ext).ext eq) ((h_m.ext H0.ext).ext eq) ((dN.ext H0.ext).ext eq) ((H0.a OC).any.ext eq) (by omega)).mono (by rintro _ _ ⟨rfl, hq2⟩; exact ⟨rfl, hq2.ext⟩)) rfl <| WQ.ev (Ev.neb Tryz.underlying4 rfl rfl) rfl <| WQ.ev (Ev.move rfl) rfl ?_
 refine WQ.dR 4 19 ((!((Ja on l a) == (Ja on l b))) && (Ja on l a)) ?_ ?_
 ·
  cases IV : (!((Ja on l a) == (Ja on l b))) with
  | true =>
   refine WQ.bF Y (Ev.aj Ei Y (VA.ext H0.ext) Y) Y <| WQ.bF Y (Ev.move Y) Y <| WQ.jd Y (v := .bool (Ja on l a)) Y Y Y Ej (fun wq eq => (Em wq a on ko ((OD.ext H0.ext).ext eq) ((h_m.ext H0.ext).ext eq) ((dN.ext H0.ext).ext eq) ((H0.a OC).any.ext eq) (by omega)).mono (by rintro _ _ ⟨rfl, hq2⟩; exact ⟨rfl, hq2.ext⟩)) rfl ?_
   refine WQ.ev (Ev.bq Y Y) Y ?_
   exact WQ.bM Y
  | false =>
   refine WQ.pass Y Y Y <| WQ.pass Y Y Y <| WQ.pass Y Y Y <| WQ.ev (Ev.bn Y Y) Y ?_
   exact WQ.bM Y
 refine WQ.ev (Ev.assign Y) Y ?_
 refine WQ.done fun w1 e1 => ?_
 have K1 := H0.grow e1
 refine WP.aG Y (fun OE => ?_) (fun OE => ?_)
 ·
  refine rg <| aR Y <| dn ?_
  refine WP.ret (aA.bW (aA.aP (aA.aD Y Y Y ?_)))
  have hq1 : (1 : Int) = (sS on l aI a b) := by unfold sS; rw [if_pos (by simpa using OE)]
  exact ⟨by rw [← hq1] <;> rfl, K1⟩
 refine WP.draw (by kernel_rfl) (by kernel_rfl) <| WQ.ev (Ev.aj Ei Y (VA.ext K1.ext) Y) Y <| WQ.ev (Ev.move Y) Y <| WQ.call (v := .bool (Ja on l a)) Y Y Y Ej (fun wq eq => (Em wq a on ko ((OD.ext K1.ext).ext eq) ((h_m.ext K1.ext).ext eq) ((dN.ext K1.ext).ext eq) ((K1.a OC).any.ext eq) (by omega)).mono (by rintro _ _ ⟨rfl, hq2⟩; exact ⟨rfl, hq2.ext⟩)) rfl ?_
 refine WQ.ev (Ev.aj Ei Y (VA.ext K1.ext) Y) Y <| WQ.ev (Ev.move Y) Y <| WQ.call (v := .bool (Ja on l b)) Y Y Y Ej (fun wq eq => (Em wq b on ko ((OD.ext K1.ext).ext eq) ((h_m.ext K1.ext).ext eq) ((dN.ext K1.ext).ext eq) ((K1.a OC).any.ext eq) (by omega)).mono (by rintro _ _ ⟨rfl, hq2⟩; exact ⟨rfl, hq2.ext⟩)) rfl ?_
 refine WQ.ev (Ev.neb Tryz.underlying4 Y Y) Y <| WQ.ev (Ev.assign Y) Y ?_
 refine WQ.done fun w2 e2 => ?_
 have K2 := K1.grow e2
 refine WP.aG Y (fun iX => ?_) (fun iX => ?_)
 ·
  refine rg <| aR Y <| dn ?_
  refine WP.ret (aA.bW (aA.aP (aA.aD Y Y Y ?_)))
  have hq2 : ((-1) : Int) = (sS on l aI a b) := by unfold sS; rw [if_neg (by simpa using OE), if_pos (by simpa using iX)]
  exact ⟨by rw [← hq2] <;> rfl, K2⟩
 refine WP.skip (aA.aS (aA.norm ?_))
 refine He K2 (fun _ K => K) (fun l0 rk lJ wJ => lJ = (6, .int .i64 (zx ([dP (fJ aI a) (fJ aI b), dP a b] : List Int))) :: l0 ∧ Hp w S0 wJ rk) (fun hns H1 => ?_) ?_
 ·
  refine Tn 0 1 hns Y (fun _ hK => Ev.aj uJ Y (fH.ext hK.ext) Y) H1 <| Tm 1 3 hns Y Y H1 <| Tn 3 11 hns Y (fun _ hK => Ev.aj uJ Y (fH.ext hK.ext) Y) H1 ?_
  refine Tm 4 27 hns Y Y H1 <| Tm 7 155 hns Y Y H1 <| Tm 8 411 hns Y Y H1 <| O1 2 Y ?_
  refine C0 H1 Y Y Y qI (lQ _ (H1.a nW).any a) fun w3 K3 => ?_
  refine WH.next K3 <| O1 5 Y ?_
  refine C0 K3 Y Y Y qI (lQ _ (K3.a nW).any b) fun w4 K4 => ?_
  refine WH.next K4 <| O1 6 Y ?_
  refine C0 K4 Y Y Y qD (jJ (S0 := Any) _ (fJ aI a) (fJ aI b)) fun w5 K5 => ?_
  refine WH.next K5 <| O1 9 Y ?_
  refine C0 K5 Y Y Y qD (jJ (S0 := Any) _ a b) fun w6 K6 => ?_
  refine WH.next K6 <| O1 10 Y ?_
  refine X7 (τ := tInt) (xs := ([dP (fJ aI a) (fJ aI b), dP a b] : List Int)) (vs := [(0, .int .i64 (dP (fJ aI a) (fJ aI b))), (1, .int .i64 (dP a b))]) (css := [[.int .i64 (dP (fJ aI a) (fJ aI b))], [.int .i64 (dP a b)]]) Y (by intro _; apply yL) rfl rfl K6 (fun _ e => ⟨rfl, rfl, trivial⟩) fun g1 w7 K7 => ?_
  have k1 := (K7.rm s0)
  refine WH.next k1 <| O1 11 Y ?_
  refine C0 K7 Y Y Y I7 (Qe _ (K7.o s0)) fun w8 K8 => ?_
  have k2 := (K8.rm s0)
  refine WH.next k2 <| Ta 12 8191 hns Y Y k2 ?_
  exact Dn ⟨Y, (K8.rm s0)⟩ Y
 rintro _ w9 ⟨rfl, K9⟩
 refine WP.ret (aA.aD Y Y Y ?_)
 have hq3 : (zx ([dP (fJ aI a) (fJ aI b), dP a b] : List Int) : Int) = (sS on l aI a b) := by unfold sS; rw [if_neg (by simp_all), if_neg (by simpa using iX)]
 exact ⟨by rw [hq3] <;> rfl, K9⟩
theorem F5 {S0 : Nat → Prop} (w : World) {qE : an3} {qF : Nat} {s : List Int} (j3 : Sl tInt S0 w qE qF s) {VB : FuncId} {VD : List Value} (aeS : aM Tryz.prog VB) (cmp : Int → Int → Int) (h_cmp : ∀ (w' : World) (x : Int) (t : Int), Ext w w' → True → bY Tryz.prog VB (([.int .i64 x, .int .i64 t] : List Value) ++ VD).toArray w' fun v w'' => v = .int .i64 (cmp x t) ∧ Ext w' w'') (hne : 1 ≤ s.length) :
    bY Tryz.prog 141 #[.slice qE s.length qF, .func (.func VB) #[] VD.toArray] w fun v w' => v = .int .i64 (jL cmp s) ∧ Hp w S0 w' [] := by
 refine WP.enter Tryz.func141 Y Tryz.ntmps141 Y ?_
 have H0 := Hp.init w S0
 have yH := j3.aN
 refine rg <| aR Y <| dn <| WP.seq <| rg <| mv Y <| ev (Ev.len Tryz.underlying51 Y) <| ev (Ev.lss Y Y) <| dn ?_
 refine WP.aG Y (fun jE => ?_) (fun jE => ?_)
 ·
  replace jE := of_decide_eq_true jE
  omega
 replace jE := of_decide_eq_false jE
 refine WP.skip (aA.norm ?_)
 refine rg <| mv Y ?_
 obtain ⟨x1, hx1⟩ := get_some (xs := s) (i := 0) (by omega)
 refine ev (Ev.index (i := 0) Tryz.underlying51 iC Y Y Y (aC hx1) ((H0.a j3).some_ hx1)) <| ev (Ev.aZ bf Y ((H0.a j3).aX (j := 0) hx1 Y)) ?_
 refine aR Y <| dn <| WP.seq <| rg <| aR Y <| dn <| WP.block ?_
 have hq1 : (x1 : Int) = (jL cmp (s.take 1)) := by exact (LH hx1).symm
 refine WP.re (t := 5) Y (congrArg (Value.int .i64) hq1) <| Lp H0 (fun l0 rk mJ lJ wJ => ∃ (j : Nat), lJ = (5, .int .i64 (jL cmp (s.take j))) :: (6, .int .i64 ((j : Nat) : Int)) :: l0 ∧ mJ = s.length - j ∧ (1 ≤ j ∧ j ≤ s.length) ∧ Hp w S0 wJ rk) ⟨1, Y, Y, by omega, H0⟩ rfl ?_
 rintro _ _ w1 ⟨j, rfl, rfl, hj, K1⟩
 refine WP.seq <| rg <| mv Y <| mv Y <| ev (Ev.len Tryz.underlying51 Y) <| ev (Ev.lss Y Y) <| dn ?_
 refine WP.aG Y (fun hc17 => ?_) (fun hc17 => ?_)
 ·
  replace hc17 := of_decide_eq_true hc17
  refine WP.skip (aA.norm ?_)
  refine WP.seq <| WP.block <| rg <| mv Y <| mv Y <| mv Y ?_
  obtain ⟨x2, hx2⟩ := get_some (xs := s) (i := j) (by omega)
  refine ev (Ev.index (i := j) Tryz.underlying51 iC Y Y Y (aC hx2) ((K1.a j3).some_ hx2)) <| ev (Ev.aZ bf Y ((K1.a j3).aX (j := 0) hx2 Y)) ?_
  refine mv Y <| WL.call Y Y Y aeS (h_cmp _ x2 (jL cmp (s.take j)) K1.ext trivial) Y ?_
  rintro _ w2 ⟨rfl, e2⟩
  have K2 := K1.grow e2
  refine ev (Ev.gtr Y Y) <| dn ?_
  refine WP.aG Y (fun hc27 => ?_) (fun hc27 => ?_)
  ·
   replace hc27 := of_decide_eq_true hc27
   refine eP <| mv Y <| mv Y <| ev (Ev.index (i := j) Tryz.underlying51 iC Y Y Y (aC hx2) ((K2.a j3).some_ hx2)) <| ev (Ev.aZ bf Y ((K2.a j3).aX (j := 0) hx2 Y)) <| aR Y <| eT <| aA.aS (aA.norm ?_)
   refine eP <| mv Y <| ev (Ev.add Y Y (eX.mk (by omega) (by omega))) <| aR Y <| eT ?_
   have hq2 : (x2 : Int) = (jL cmp (s.take (j + 1))) := by rw [xM hj.1 hx2]; first | rw [if_pos hc27] | rw [if_neg hc27]
   refine aA.re (t := 5) Y (congrArg (Value.int .i64) hq2) ?_
   exact aA.ag ⟨(j + 1), Y, Y, by omega, K2⟩ rfl (by omega)
  replace hc27 := of_decide_eq_false hc27
  refine WP.skip (aA.aS (aA.norm ?_))
  refine eP <| mv Y <| ev (Ev.add Y Y (eX.mk (by omega) (by omega))) <| aR Y <| eT ?_
  have hq3 : ((jL cmp (s.take j)) : Int) = (jL cmp (s.take (j + 1))) := by rw [xM hj.1 hx2]; first | rw [if_pos hc27] | rw [if_neg hc27]
  refine aA.re (t := 5) Y (congrArg (Value.int .i64) hq3) ?_
  exact aA.ag ⟨(j + 1), Y, Y, by omega, K2⟩ rfl (by omega)
 replace hc17 := of_decide_eq_false hc17
 refine WP.exit (aA.aF (aA.aF (aA.bS (aA.norm ?_))))
 refine rg <| mv Y <| aR Y <| dn ?_
 refine WP.ret (aA.aD Y Y Y ?_)
 have hq4 : ((jL cmp (s.take j)) : Int) = (jL cmp s) := by rw [List.take_of_length_le (by omega)]
 exact ⟨by rw [hq4] <;> rfl, K1⟩
end Go.Proofs.YtjcklpooaaaglaaGreat
set_option maxRecDepth 4000
set_option linter.all false
namespace Go.Proofs.YtjcklpooaaaglaaGreat
open Go.RowKit
theorem C8 {c : AChunk} {l : List ANode} {ah : List Int} {aI : List bP} {aJ : Int} (h : aJ < 1 ∨ ((bR c l ah).length : Int) < aJ) : dX c l ah aI aJ = (0, false) := if_pos h
theorem zF {c : AChunk} {l : List ANode} {ah : List Int} {aI : List bP} {aJ i : Int} (h : ¬ (aJ < 1 ∨ ((bR c l ah).length : Int) < aJ)) (hx : (uM c l ah)[0]? = some i) : dX c l ah aI aJ = (i, true) := by
  unfold dX; rw [if_neg h]
  cases hi : uM c l ah with
  | nil => rw [hi] at hx; simp at hx
  | cons j t => rw [hi] at hx; simp at hx; subst hx; rfl
theorem zG {c : AChunk} {l : List ANode} {ah : List Int} {aI : List bP} {aJ : Int} (h : ¬ (aJ < 1 ∨ ((bR c l ah).length : Int) < aJ)) (hi : ¬ 0 < (uM c l ah).length) (he : ((bR c l ah).length : Int) = aJ) : dX c l ah aI aJ = (0, false) := by
  have e : uM c l ah = [] := List.eq_nil_of_length_eq_zero (by omega)
  unfold dX; rw [if_neg h, e]; exact if_pos he
theorem C9 {c : AChunk} {l : List ANode} {ah : List Int} {aI : List bP} {aJ : Int} (h : ¬ (aJ < 1 ∨ ((bR c l ah).length : Int) < aJ)) (hi : ¬ 0 < (uM c l ah).length) (he : ¬ ((bR c l ah).length : Int) = aJ) : dX c l ah aI aJ = (jL (sS (ji l (bR c l ah)) l aI) (bR c l ah), true) := by
  have e : uM c l ah = [] := List.eq_nil_of_length_eq_zero (by omega)
  unfold dX; rw [if_neg h, e]; exact if_neg he
theorem VE : aM Tryz.prog 27 := fun _ _ => by kernel_rfl
theorem ace : aM Tryz.prog 138 := fun _ _ => by kernel_rfl
theorem VF : ∀ w, (zeroValue 175).run Tryz.prog w = .ok (.map none) w := fun _ => by kernel_rfl
theorem acf : Size Tryz.prog 175 1 := fun _ => by kernel_rfl
theorem VG : ∀ w, (zeroValue 105).run Tryz.prog w = .ok (.nilFunc) w := fun _ => by kernel_rfl
theorem acg : Size Tryz.prog 105 1 := fun _ => by kernel_rfl
theorem ach : aM Tryz.prog 142 := fun _ _ => by kernel_rfl
theorem aci : aM Tryz.prog 141 := fun _ _ => by kernel_rfl
theorem OG {S0 : Nat → Prop} (w : World) (c : AChunk) {kR : an3} {kS : Nat} (nC : Sl tInt S0 w kR kS c.av) {d9 : an3} {eu : Nat} {l : List ANode} (dN : Sl tNode S0 w d9 eu l) {cZ : an3} {dh : Nat} {ah : List Int} (cu : Sl tInt S0 w cZ dh ah) {fC : an3} {fD : Nat} {aI : List bP} (fH : Sl fO S0 w fC fD aI) (aJ : Int) (hh : c.av.length ≤ 100000) (hn : l.length ≤ 100000) :
    bY Tryz.prog 88 #[.agg #[.int .i64 c.ID, .int .i64 c.ay, .int .u32 c.Sum, .slice kR c.av.length kS], .slice d9 l.length eu, .slice cZ ah.length dh, .slice fC aI.length fD, .int .i64 aJ] w fun v w' => v = .tuple #[.int .i64 ((dX c l ah aI aJ).1), .bool ((dX c l ah aI aJ).2)] ∧ Hp w S0 w' [] := by
 refine WP.enter Tryz.func88 Y Tryz.ntmps88 Y ?_
 have H0 := Hp.init w S0
 have iJ := dN.aN
 have iy := cu.aN
 have mP := fH.aN
 have hll := wP c ah
 have hgl := G6 c l ah
 refine rg ?_
 refine bx Y Y H0 fun g1 w1 K1 => ?_
 refine bx Y Y K1 fun g2 w2 K2 => ?_
 refine bx Y Y K2 fun g3 w3 K3 => ?_
 refine aR Y <| aR Y <| dn <| rg <| ev (Ev.bX gQ Y Y (K3.x s2)) <| ev (Ev.aj lS Y (K3.x s1) Y) <| mv Y <| WL.call Y Y Y VE (Eh _ c (K3.a nC).any (K3.a dN).any (K3.a cu).any (by omega) (by omega)) Y ?_
 rintro _ w4 ⟨sG, sH, rfl, h4⟩
 have K4 := K3.f1 h4
 have GX := (K4.o s0).aN
 refine aR Y <| dn <| WP.seq <| rg <| mv Y <| ev (Ev.lss Y Y) <| mv Y ?_
 refine WL.dR 5 29 ((decide (aJ < 1)) || (decide ((((bR c l ah).length : Nat) : Int) < aJ))) ?_ ?_
 ·
  cases OH : decide (aJ < 1) with
  | true =>
   refine WL.pass Y Y Y <| WL.pass Y Y Y <| WL.pass Y Y Y <| WL.pass Y Y Y <| ev (Ev.bq Y Y) ?_
   exact WL.bM Y
  | false =>
   have ZT := of_decide_eq_false OH
   refine WL.bF Y (Ev.move Y) Y <| WL.bF Y (Ev.len Tryz.underlying51 Y) Y <| WL.bF Y (Ev.move Y) Y <| WL.bF Y (Ev.lss Y Y) Y <| ev (Ev.bn Y Y) ?_
   exact WL.bM Y
 refine dn ?_
 refine WP.aG Y (fun hc29 => ?_) (fun hc29 => ?_)
 ·
  try simp only [Bool.or_eq_true, Bool.or_eq_false_iff, decide_eq_true_eq, decide_eq_false_iff_not] at hc29
  refine rg <| aR Y <| aR Y <| dn ?_
  refine WP.ret (aA.aP (aA.aD Y Y Y ?_))
  have hq1 : (0 : Int) = ((dX c l ah aI aJ).1) := by rw [C8 (by omega)]
  have hq2 : (false : Bool) = ((dX c l ah aI aJ).2) := by rw [C8 (by omega)]
  exact ⟨by rw [← hq1, ← hq2] <;> rfl, K4.z⟩
 try simp only [Bool.or_eq_true, Bool.or_eq_false_iff, decide_eq_true_eq, decide_eq_false_iff_not] at hc29
 refine WP.skip (aA.norm ?_)
 refine WP.seq <| rg <| ev (Ev.bX gQ Y Y (K4.x s3)) <| ev (Ev.aj lS Y (K4.x s2) Y) <| mv Y <| WL.call Y Y Y ace (Vu _ c (K4.a nC).any (K4.a dN).any (K4.a cu).any (by omega) (by omega)) Y ?_
 rintro _ w5 ⟨zu, zw, rfl, h5⟩
 have K5 := K4.f1 h5
 have U2 := (K5.o s0).aN
 refine aR Y <| dn <| rg <| mv Y <| ev (Ev.len Tryz.underlying51 Y) <| ev (Ev.gtr Y Y) <| dn ?_
 refine WP.aG Y (fun uN => ?_) (fun uN => ?_)
 ·
  replace uN := of_decide_eq_true uN
  refine rg <| mv Y ?_
  obtain ⟨x1, hx1⟩ := get_some (xs := uM c l ah) (i := 0) (by omega)
  refine ev (Ev.index (i := 0) Tryz.underlying51 iC Y Y Y (aC hx1) ((K5.o s0).some_ hx1)) <| ev (Ev.aZ bf Y ((K5.o s0).aX (j := 0) hx1 Y)) ?_
  refine aR Y <| aR Y <| dn ?_
  refine WP.ret (aA.aP (aA.aD Y Y Y ?_))
  have hq3 : (x1 : Int) = ((dX c l ah aI aJ).1) := by rw [zF (by omega) hx1]
  have hq4 : (true : Bool) = ((dX c l ah aI aJ).2) := by rw [zF (by omega) hx1]
  exact ⟨by rw [← hq3, ← hq4] <;> rfl, K5.z⟩
 replace uN := of_decide_eq_false uN
 refine WP.skip (aA.norm ?_)
 refine WP.seq <| rg <| mv Y <| ev (Ev.len Tryz.underlying51 Y) <| mv Y <| ev (Ev.eql Y Y) <| dn ?_
 refine WP.aG Y (fun En => ?_) (fun En => ?_)
 ·
  replace En := of_decide_eq_true En
  refine rg <| aR Y <| aR Y <| dn ?_
  refine WP.ret (aA.aP (aA.aD Y Y Y ?_))
  have kP : (0 : Int) = ((dX c l ah aI aJ).1) := by rw [zG (by omega) (by omega) (by omega)]
  have ny : (false : Bool) = ((dX c l ah aI aJ).2) := by rw [zG (by omega) (by omega) (by omega)]
  exact ⟨by rw [← kP, ← ny] <;> rfl, K5.z⟩
 replace En := of_decide_eq_false En
 refine WP.skip (aA.norm ?_)
 refine rg ?_
 refine mkc K5 Y fun g4 w6 K6 => ?_
 refine al VF Y K6 fun g5 w7 K7 => ?_
 refine BK Y Y Y acf K7 s0 Y fun w8 K8 => ?_
 refine dn <| WP.seq <| rg <| mv Y <| ev (Ev.len Tryz.underlying51 Y) <| mv Y <| dn <| WP.block ?_
 have kT : [] = (ji l ((bR c l ah).take 0)) := by rfl
 rw [kT] at K8
 refine WP.lp (fun mJ lJ wJ => ∃ (k : Nat), lJ = [(6, .pointer (some ⟨g2, 0, none⟩)), (8, .pointer (some ⟨g3, 0, none⟩)), (12, .slice sG ((bR c l ah).length) sH), (14, .pointer (some ⟨g5, 0, none⟩)), (45, .slice sG ((bR c l ah).length) sH), (46, .int .i64 (((bR c l ah).length : Nat) : Int)), (47, .int .i64 ((k : Nat) : Int))] ∧ mJ = (bR c l ah).length - k ∧ k ≤ (bR c l ah).length ∧ Hp w S0 wJ [Uu g4 (ji l ((bR c l ah).take k)), dG g5 175 [.map (some g4)], aQ tInt 3 zu zw (uM c l ah), aQ tInt 3 sG sH (bR c l ah), dG g3 130 [.slice fC aI.length fD], dG g2 22 [.slice d9 l.length eu], dG g1 53 [.int .i64 c.ID, .int .i64 c.ay, .int .u32 c.Sum, .slice kR c.av.length kS]]) ⟨0, Y, Y, Nat.zero_le _, ((K8.sel s0).sel s1)⟩ Y ?_
 rintro _ _ w9 ⟨k, rfl, rfl, hk, K9⟩
 refine rg <| ev (Ev.lss Y Y) <| dn ?_
 refine WP.cond Y (fun Jb => ?_) (fun Jb => ?_)
 ·
  replace Jb := of_decide_eq_true Jb
  refine WP.skip (aA.norm ?_)
  refine WP.seq <| WP.block <| rg ?_
  obtain ⟨x2, hx2⟩ := get_some (xs := bR c l ah) (i := k) (by omega)
  refine ev (Ev.index (i := k) Tryz.underlying51 iC Y Y Y (aC hx2) ((K9.o s3).some_ hx2)) <| ev (Ev.aZ bf Y ((K9.o s3).aX (j := 0) hx2 Y)) ?_
  refine aR Y <| dn ?_
  have hcb : 0 ≤ qV (ji l ((bR c l ah).take k)) ((bL l x2).dA) ∧ qV (ji l ((bR c l ah).take k)) ((bL l x2).dA) ≤ ((bR c l ah).take k).length := YU l _ _
  simp only [List.length_take] at hcb
  refine Hf K9 (fun _ K => (K.rm s0)) (fun l0 rk lJ wJ => lJ = l0 ∧ Hp w S0 wJ (Uu g4 (uz (ji l ((bR c l ah).take k)) ((bL l x2).dA) ((qV (ji l ((bR c l ah).take k)) ((bL l x2).dA)) + 1)) :: rk)) (fun hns H1 => ?_) ?_
  ·
   have k1 := (H1.rm s0)
   refine Tn 0 1 hns Y (fun _ hK => Ev.aj Vw Y (hK.x s0) Y) k1 <| Tn 1 3 hns Y (fun _ hK => Ev.aj lS Y (hK.x s4) Y) k1 <| Tm 2 7 hns Y Y k1 ?_
   refine O1 3 Y ?_
   refine C0 H1 Y Y Y Vx (LD _ (H1.a dN).any x2 (by omega)) fun J8 K10 => ?_
   have k2 := (K10.rm s0)
   refine WH.next k2 <| O1 4 Y <| ev (Ev.Zx (K10.obj s0) (Bn _ _) Tryz.underlying175 Tryz.underlying3 Vy Y Y) <| WH.next k2 <| Tn 5 63 hns Y (fun _ _ => Ev.add Y Y (eX.mk (by omega) (by omega))) k2 <| O1 6 Y ?_
   refine aic (Bn _ _) K10 s0 Y Y Y Tryz.underlying175 Tryz.underlying3 fun Om qb => ?_
   have k3 := (qb.rm s0)
   refine WH.next k3 ?_
   exact Dn ⟨Y, qb⟩ Y
  rintro _ Le ⟨rfl, oH⟩
  refine aA.aS (aA.norm ?_)
  refine eP <| ev (Ev.add Y Y (eX.mk (by omega) (by omega))) <| mv Y <| eT ?_
  have hq8 : (uz (ji l ((bR c l ah).take k)) ((bL l x2).dA) ((qV (ji l ((bR c l ah).take k)) ((bL l x2).dA)) + 1)) = (ji l ((bR c l ah).take (k + 1))) := by rw [Sr hx2]; rfl
  rw [hq8] at oH
  exact aA.ag ⟨(k + 1), Y, Y, by omega, oH⟩ rfl (by omega)
 replace Jb := of_decide_eq_false Jb
 refine WP.exit (aA.aF (aA.aF (aA.bS (aA.norm ?_))))
 refine rg <| ev (Ev.func Y) ?_
 refine al VG Y K9 fun g6 RY sP => ?_
 refine BK Y Y Y acg sP s0 Y fun RZ nO => ?_
 refine dn <| rg <| mv Y <| ev (Ev.func Y) ?_
 refine C0 nO Y Y Y aci (F5 _ (nO.o s4) (VD := [.pointer (some ⟨g6, 0, none⟩), .pointer (some ⟨g3, 0, none⟩)]) ach (fun (x : Int) (t : Int) => sS (ji l ((bR c l ah).take k)) l aI x t) (fun w' x t e hm => (YV w' x t (ji l ((bR c l ah).take k)) (Bn _ _) ((nO.x s2).ext e) ((show Mp _ _ _ from nO.obj s1).ext e) ((nO.x s6).ext e) ((nO.a dN).any.ext e) ((nO.x s0).ext e) ((nO.x s5).ext e) ((nO.a fH).any.ext e) (by omega)).mono (by rintro _ _ ⟨rfl, hq2⟩; exact ⟨rfl, hq2.ext⟩)) (by omega)) fun TM vW => ?_
 refine aR Y <| aR Y <| dn ?_
 refine WP.ret (aA.aD Y Y Y ?_)
 have uj : ((jL (fun (x : Int) (t : Int) => sS (ji l ((bR c l ah).take k)) l aI x t) (bR c l ah)) : Int) = ((dX c l ah aI aJ).1) := by rw [C9 (by omega) (by omega) (by omega), List.take_of_length_le (show (bR c l ah).length ≤ k by omega)]
 have jK : (true : Bool) = ((dX c l ah aI aJ).2) := by rw [C9 (by omega) (by omega) (by omega)]
 exact ⟨by rw [uj, ← jK] <;> rfl, vW.z⟩
end Go.Proofs.YtjcklpooaaaglaaGreat
set_option maxRecDepth 4000
set_option linter.all false
namespace Go.Proofs.YtjcklpooaaaglaaGreat
open Go.RowKit
structure ABeat where
  Node : Int
  At : Int
  deriving DecidableEq
def ABeat.enc (x : ABeat) : List Value := [.int .i64 x.Node, .int .i64 x.At]
theorem ABeat.iB (x : ABeat) : ∀ u ∈ x.enc, u.oneCell' = true := by
  intro u hu
  simp only [ABeat.enc, List.mem_cons, List.not_mem_nil, or_false] at hu
  rcases hu with rfl | rfl <;> rfl
def ABeat.wf (x : ABeat) : Prop := InI64 x.Node ∧ InI64 x.At
def tBeat : Ty ABeat := Ty.flat 2 ABeat.enc (by decide) (fun _ => rfl) ABeat.iB
instance : Flat tBeat := ⟨fun h => h⟩
def vS (b : ABeat) : Bool := decide (1 ≤ b.Node) && decide (b.Node ≤ 16) && decide (0 ≤ b.At) && decide (b.At ≤ 1099511627776)
def j6 : Int → List ABeat → Bool
  | _, [] => true
  | last, b :: l => vS b && decide (last < b.Node) && j6 b.Node l
def dZ (l : List ABeat) : List ABeat := if j6 0 l then l else []
def tT (l : List ABeat) (k : Nat) : Int := match (l.take k).getLast? with | some b => b.Node | none => 0
theorem Eo : ∀ (l : List ABeat) (b : ABeat) (z : Int), j6 z (l ++ [b]) = (j6 z l && vS b && decide ((match l.getLast? with | some c => c.Node | none => z) < b.Node))
  | [], b, z => by simp [j6]; try rfl
  | c :: l, b, z => by
    have ih := Eo l b c.Node
    simp only [List.cons_append, j6, ih]
    cases l with
    | nil => simp [Bool.and_assoc]; try rfl
    | cons d l => simp [Bool.and_assoc, List.getLast?_cons_cons]; cases hl : (d :: l).getLast? <;> simp_all
theorem yR {l : List ABeat} {k : Nat} {b : ABeat} (h : j6 0 (l.take k) = true) (hx : l[k]? = some b) : j6 0 (l.take (k + 1)) = (vS b && decide (tT l k < b.Node)) := by
  rw [dK hx, Eo, h]; simp [tT]; try rfl
theorem G7 : ∀ (l m : List ABeat) (z : Int), j6 z (l ++ m) = true → j6 z l = true
  | [], m, z, _ => rfl
  | b :: l, m, z, h => by
    simp only [List.cons_append, j6, Bool.and_eq_true] at h ⊢
    exact ⟨h.1, G7 l m _ h.2⟩
theorem Ep {l : List ABeat} {k : Nat} {b : ABeat} (hx : l[k]? = some b) : tT l (k + 1) = b.Node := by
  unfold tT; rw [dK hx]; simp
theorem G8 {l : List ABeat} {k : Nat} {b : ABeat} (h : j6 0 (l.take k) = true) (hx : l[k]? = some b) (hb : (vS b && decide (tT l k < b.Node)) = false) : dZ l = [] := by
  unfold dZ
  rw [if_neg]
  intro h1
  have h2 := G7 (l.take (k + 1)) (l.drop (k + 1)) 0 (by rw [List.take_append_drop]; exact h1)
  rw [yR h hx, hb] at h2
  cases h2
theorem zH {l : List ABeat} (h : j6 0 l = true) : dZ l = l := by unfold dZ; rw [if_pos h]
theorem nZ : dL Tryz.prog 72 0 0 := fun _ _ => by kernel_rfl
theorem zI : dL Tryz.prog 72 1 1 := fun _ _ => by kernel_rfl
theorem VH  : ∀ w, (Instr.buildSlice 27 0 (List.toArray [])).run Tryz.prog w = .ok (.slice (some ⟨w.heap.size, 0, none⟩) 0 0) (w.alloc (.cells (List.toArray []) 72)) := fun _ => by kernel_rfl
theorem aeT : je Tryz.prog 72 2 16 := by
  obtain ⟨i, h1, h2, h3, h4⟩ := info_parts (show (Tryz.prog.info? 72).map (fun i => (i.zero, i.size, i.bytes)) = some (some (.agg #[.int .i64 0, .int .i64 0]), 2, 16) by kernel_rfl)
  exact ⟨i, _, h1, h2, h3, h4, Y⟩
theorem pO : Size Tryz.prog 72 2 := fun _ => by kernel_rfl
theorem Es : NT Tryz.prog 72 2 := ⟨fun _ => by kernel_rfl, pO⟩
theorem Jc : ∀ w, (zeroValue 72).run Tryz.prog w = .ok (.agg #[.int .i64 0, .int .i64 0]) w := fun _ => by kernel_rfl
theorem acj : aM Tryz.prog 165 := fun _ _ => by kernel_rfl
theorem VI : aM Tryz.prog 36 := fun _ _ => by kernel_rfl
theorem YW {S0 : Nat → Prop} (w : World) (b : ABeat) :
    bY Tryz.prog 165 #[.agg #[.int .i64 b.Node, .int .i64 b.At]] w fun v w' => v = .bool (vS b) ∧ Hp w S0 w' [] := by
 refine WP.enter Tryz.func165 Y Tryz.ntmps165 Y ?_
 have H0 := Hp.init w S0
 refine rg ?_
 refine bx Y Y H0 fun g1 w1 K1 => ?_
 refine aR Y <| dn <| rg <| ev (Ev.field (q := ⟨g1, 0, none⟩) nZ Y Y) <| ev (Ev.aj bf Y (K1.x s0) Y) <| ev (Ev.geq Y Y) <| mv Y ?_
 refine WL.dR 4 10 ((decide (1 ≤ b.Node)) && (decide (b.Node ≤ 16))) ?_ ?_
 ·
  cases hb6 : decide (1 ≤ b.Node) with
  | true =>
   have YH := of_decide_eq_true hb6
   refine WL.bF Y (Ev.field (q := ⟨g1, 0, none⟩) nZ Y Y) Y <| WL.bF Y (Ev.aj bf Y (K1.x s0) Y) Y <| WL.bF Y (Ev.leq Y Y) Y ?_
   refine ev (Ev.bq Y Y) ?_
   exact WL.bM Y
  | false =>
   refine WL.pass Y Y Y <| WL.pass Y Y Y <| WL.pass Y Y Y <| ev (Ev.bn Y Y) ?_
   exact WL.bM Y
 refine mv Y ?_
 refine WL.dR 4 15 (((decide (1 ≤ b.Node)) && (decide (b.Node ≤ 16))) && (decide (0 ≤ b.At))) ?_ ?_
 ·
  cases AX : ((decide (1 ≤ b.Node)) && (decide (b.Node ≤ 16))) with
  | true =>
   have tJ := AX
   try simp only [Bool.and_eq_true, Bool.and_eq_false_imp, decide_eq_true_eq, decide_eq_false_iff_not] at tJ
   refine WL.bF Y (Ev.field (q := ⟨g1, 1, none⟩) zI Y Y) Y <| WL.bF Y (Ev.aj bf Y (K1.x s0) Y) Y <| WL.bF Y (Ev.geq Y Y) Y ?_
   refine ev (Ev.bq Y Y) ?_
   exact WL.bM Y
  | false =>
   refine WL.pass Y Y Y <| WL.pass Y Y Y <| WL.pass Y Y Y <| ev (Ev.bn Y Y) ?_
   exact WL.bM Y
 refine mv Y ?_
 refine WL.dR 4 20 ((((decide (1 ≤ b.Node)) && (decide (b.Node ≤ 16))) && (decide (0 ≤ b.At))) && (decide (b.At ≤ 1099511627776))) ?_ ?_
 ·
  cases CO : (((decide (1 ≤ b.Node)) && (decide (b.Node ≤ 16))) && (decide (0 ≤ b.At))) with
  | true =>
   have yB := CO
   try simp only [Bool.and_eq_true, Bool.and_eq_false_imp, decide_eq_true_eq, decide_eq_false_iff_not] at yB
   refine WL.bF Y (Ev.field (q := ⟨g1, 1, none⟩) zI Y Y) Y <| WL.bF Y (Ev.aj bf Y (K1.x s0) Y) Y <| WL.bF Y (Ev.leq Y Y) Y ?_
   refine ev (Ev.bq Y Y) ?_
   exact WL.bM Y
  | false =>
   refine WL.pass Y Y Y <| WL.pass Y Y Y <| WL.pass Y Y Y <| ev (Ev.bn Y Y) ?_
   exact WL.bM Y
 refine aR Y <| dn ?_
 refine WP.ret (aA.aD Y Y Y ?_)
 have hq1 : (((((decide (1 ≤ b.Node)) && (decide (b.Node ≤ 16))) && (decide (0 ≤ b.At))) && (decide (b.At ≤ 1099511627776))) : Bool) = (vS b) := by rfl
 exact ⟨by rw [hq1] <;> rfl, (K1.rm s0)⟩
theorem uO {S0 : Nat → Prop} (w : World) {qE : an3} {qF : Nat} {s : List ABeat} (j3 : Sl tBeat S0 w qE qF s) (hn : s.length ≤ 1000000) :
    bY Tryz.prog 36 #[.slice qE s.length qF] w fun v w' => ∃ (A0 : an3) (c0 : Nat), v = .slice A0 s.length c0 ∧ Hp w S0 w' [aQ tBeat 72 A0 c0 s] := by
 refine WP.enter Tryz.func36 Y Tryz.ntmps36 Y ?_
 have H0 := Hp.init w S0
 have yH := j3.aN
 refine rg <| aR Y <| dn <| WP.seq <| rg <| mv Y <| ev (Ev.Gn Tryz.underlying27 Y Y) <| dn ?_
 refine WP.aG Y (fun hc4 => ?_) (fun hc4 => ?_)
 ·
  refine rg <| aR Y <| dn ?_
  refine WP.ret (aA.aP (aA.aD Y Y Y ?_))
  have H1 := H0.nil tBeat 72
  have hq1 : (([] : List ABeat) : List ABeat) = s := by have h1 := j3.nil (by simpa using hc4); have h2 := j3.cap; exact (List.eq_nil_of_length_eq_zero (by omega)).symm
  have H2 := (hq1 ▸ H1 : Hp w S0 w (aQ tBeat 72 none 0 s :: []))
  exact ⟨none, 0, by rw [← hq1] <;> rfl, H2⟩
 refine WP.skip (aA.norm ?_)
 refine rg ?_
 refine bs0 (τ := tBeat) (vs := []) Y (by intro _; apply VH) rfl H0 fun g1 w1 K1 => ?_
 refine mv Y ?_
 refine ap (ys := s) K1 s0 Y Y (K1.a j3).any Tryz.underlying27 aeT (by simp) (by first | omega | (simp; omega) | (simp; done)) rfl fun jg jh w2 K2 => ?_
 refine aR Y <| dn ?_
 refine WP.ret (aA.aD Y Y Y ?_)
 have hq2 : ((([] : List ABeat) ++ s) : List ABeat) = s := by simp
 rw [hq2] at K2
 exact ⟨jg, jh, by rw [hq2] <;> rfl, K2⟩
theorem VJ {S0 : Nat → Prop} (w : World) {d9 : an3} {eu : Nat} {l : List ABeat} (dN : Sl tBeat S0 w d9 eu l) (hn : l.length ≤ 800000) :
    bY Tryz.prog 116 #[.slice d9 l.length eu] w fun v w' => ∃ (A0 : an3) (c0 : Nat), v = .slice A0 ((dZ l).length) c0 ∧ Hp w S0 w' [aQ tBeat 72 A0 c0 (dZ l)] := by
 refine WP.enter Tryz.func116 Y Tryz.ntmps116 Y ?_
 have H0 := Hp.init w S0
 have iJ := dN.aN
 refine rg <| aR Y <| dn <| rg <| aR Y <| dn <| WP.seq <| rg <| mv Y <| ev (Ev.len Tryz.underlying27 Y) <| mv Y <| dn <| WP.block ?_
 have hq1 : (0 : Int) = tT l 0 := by simp [tT]
 refine WP.re (t := 3) Y (congrArg (Value.int .i64) hq1) <| Lp H0 (fun l0 rk mJ lJ wJ => ∃ (k : Nat), lJ = (3, .int .i64 (tT l k)) :: (8, .int .i64 ((k : Nat) : Int)) :: l0 ∧ mJ = l.length - k ∧ k ≤ l.length ∧ (j6 0 (l.take k) = true) ∧ Hp w S0 wJ rk) ⟨0, Y, Y, Nat.zero_le _, by simp [j6], H0⟩ rfl ?_
 rintro _ _ w1 ⟨k, rfl, rfl, hk, hrise, K1⟩
 refine rg <| ev (Ev.lss Y Y) <| dn ?_
 refine WP.cond Y (fun jE => ?_) (fun jE => ?_)
 ·
  replace jE := of_decide_eq_true jE
  refine WP.skip (aA.norm ?_)
  refine WP.seq <| WP.block <| rg ?_
  obtain ⟨x1, hx1⟩ := get_some (xs := l) (i := k) (by omega)
  refine ev (Ev.index (i := k) Tryz.underlying27 pO Y Y Y (aC hx1) ((K1.a dN).some_ hx1)) <| ev (Ev.loadRow Es Y Y ((K1.a dN).dx hx1)) ?_
  refine al Jc Y K1 fun g1 w2 K2 => ?_
  refine iW Y Y Y pO K2 s0 Y Y fun w3 K3 => ?_
  refine dn <| WP.seq <| rg <| ev (Ev.bX Es Y Y (K3.x s0)) ?_
  refine C0 K3 Y Y Y acj (YW (S0 := Any) _ x1) fun w4 K4 => ?_
  refine ev (Ev.not Y) <| mv Y ?_
  refine WL.dR 5 20 ((!(vS x1)) || (decide (x1.Node ≤ tT l k))) ?_ ?_
  ·
   cases IV : (!(vS x1)) with
   | true =>
    refine WL.pass Y Y Y <| WL.pass Y Y Y <| WL.pass Y Y Y <| WL.pass Y Y Y <| ev (Ev.bq Y Y) ?_
    exact WL.bM Y
   | false =>
    refine WL.bF Y (Ev.field (q := ⟨g1, 0, none⟩) nZ Y Y) Y <| WL.bF Y (Ev.aj bf Y (K4.x s0) Y) Y <| WL.bF Y (Ev.move Y) Y ?_
    refine WL.bF Y (Ev.leq Y Y) Y <| ev (Ev.bn Y Y) ?_
    exact WL.bM Y
  refine dn ?_
  refine WP.aG Y (fun iX => ?_) (fun iX => ?_)
  ·
   try simp only [an4, an5, an6, an7, an8, an9, aoa, aob] at iX
   refine rg <| aR Y <| dn ?_
   refine WP.ret (aA.aP (aA.bW (aA.aP (aA.aP (aA.bW (aA.aP (aA.aD Y Y Y ?_)))))))
   have H1 := K4.nil tBeat 72
   have hq2 : (([] : List ABeat) : List ABeat) = (dZ l) := by refine (G8 hrise hx1 ?_).symm; rcases iX with h1 | h1; simp [h1]; simp; intro _; omega
   have H2 := (hq2 ▸ H1 : Hp w S0 w4 (aQ tBeat 72 none 0 (dZ l) :: [dG g1 72 [.int .i64 x1.Node, .int .i64 x1.At]]))
   exact ⟨none, 0, by rw [← hq2] <;> rfl, (H2.rm s1)⟩
  try simp only [an4, an5, an6, an7, an8, an9, aoa, aob] at iX
  refine WP.skip (aA.norm ?_)
  refine eP <| ev (Ev.field (q := ⟨g1, 0, none⟩) nZ Y Y) <| ev (Ev.aj bf Y (K4.x s0) Y) <| aR Y <| eT <| aA.aS (aA.norm ?_)
  refine eP <| ev (Ev.add Y Y (eX.mk (by omega) (by omega))) <| mv Y <| eT ?_
  have hq3 : (x1.Node : Int) = tT l (k + 1) := by exact (Ep hx1).symm
  refine aA.re (t := 3) Y (congrArg (Value.int .i64) hq3) ?_
  exact aA.ag ⟨(k + 1), Y, Y, by omega, by rw [yR hrise hx1]; obtain ⟨h1, h2⟩ := iX; simp [h1]; omega, (K4.rm s0)⟩ rfl (by omega)
 replace jE := of_decide_eq_false jE
 refine WP.exit (aA.aF (aA.aF (aA.bS (aA.norm ?_))))
 refine rg <| mv Y <| WL.call Y Y Y VI (uO _ (K1.a dN).any (by omega)) Y ?_
 rintro _ w5 ⟨zu, zw, rfl, h5⟩
 have K5 := K1.f1 h5
 refine aR Y <| dn ?_
 refine WP.ret (aA.aD Y Y Y ?_)
 have hq4 : (l : List ABeat) = (dZ l) := by rw [List.take_of_length_le (by omega)] at hrise; exact (zH hrise).symm
 have H3 := (hq4 ▸ K5 : Hp w S0 w5 [aQ tBeat 72 zu zw (dZ l)])
 exact ⟨zu, zw, by rw [← hq4] <;> rfl, H3⟩
theorem Bo (l : List ABeat) : (dZ l).length ≤ l.length := by unfold dZ; split <;> simp
end Go.Proofs.YtjcklpooaaaglaaGreat
set_option maxRecDepth 4000
set_option linter.all false
namespace Go.Proofs.YtjcklpooaaaglaaGreat
open Go.RowKit
def zJ (b : ABeat) (dB : Int) : Int := b.At + (if (1099511627776 : Int) < (if 0 > dB then 0 else dB) then 1099511627776 else (if 0 > dB then 0 else dB))
def vH (now dB : Int) (b : ABeat) : Bool := decide (now ≤ zJ b dB)
def vI (l : List ABeat) (now dB : Int) : List ABeat := (dZ l).filter (vH now dB)
theorem G9 : ∀ (l : List ABeat) (z : Int), j6 z l = true → ∀ b ∈ l, vS b = true
  | [], _, _, b, hb => by simp at hb
  | c :: l, z, h, b, hb => by
    simp only [j6, Bool.and_eq_true] at h
    rcases List.mem_cons.1 hb with rfl | hb
    · exact h.1.1
    · exact G9 l _ h.2 b hb
theorem Et {l : List ABeat} {b : ABeat} (hb : b ∈ dZ l) : 1 ≤ b.Node ∧ b.Node ≤ 16 ∧ 0 ≤ b.At ∧ b.At ≤ 1099511627776 := by
  unfold dZ at hb; split at hb
  · rename_i h; have := G9 l 0 h b hb; simp only [vS, Bool.and_eq_true, decide_eq_true_eq] at this; exact ⟨this.1.1.1, this.1.1.2, this.1.2, this.2⟩
  · simp at hb
theorem OI {α : Type} {p : α → Bool} {l : List α} {k : Nat} {x : α} (hx : l[k]? = some x) (hp : p x = true) : (l.take k).filter p ++ [x] <+: l.filter p := by
  refine ⟨(l.drop (k + 1)).filter p, ?_⟩
  have h1 := fQ (p := p) hx
  rw [if_pos hp] at h1
  rw [← h1, ← List.filter_append, List.take_append_drop]
theorem zK : kH Tryz.prog 27 := fun _ => by kernel_rfl
theorem acn : aM Tryz.prog 116 := fun _ _ => by kernel_rfl
theorem aco : aM Tryz.prog 117 := fun _ _ => by kernel_rfl
theorem Qu : ∀ w, (zeroValue 51).run Tryz.prog w = .ok (.slice none 0 0) w := fun _ => by kernel_rfl
theorem aeU : aM Tryz.prog 71 := fun _ _ => by kernel_rfl
theorem acp : aM Tryz.prog 115 := fun _ _ => by kernel_rfl
theorem YX {S0 : Nat → Prop} (w : World) (b : ABeat) (dB : Int) (hA : 0 ≤ b.At ∧ b.At ≤ 1099511627776) :
    bY Tryz.prog 117 #[.agg #[.int .i64 b.Node, .int .i64 b.At], .int .i64 dB] w fun v w' => v = .int .i64 (zJ b dB) ∧ Hp w S0 w' [] := by
 refine WP.enter Tryz.func117 Y Tryz.ntmps117 Y ?_
 have H0 := Hp.init w S0
 refine rg ?_
 refine bx Y Y H0 fun g1 w1 K1 => ?_
 refine aR Y <| dn <| rg <| ev (Ev.field (q := ⟨g1, 1, none⟩) zI Y Y) <| ev (Ev.aj bf Y (K1.x s0) Y) <| mv Y <| ev (Ev.max2 Y Y) <| ev (Ev.min2 Y Y) <| ev (Ev.add Y Y (eX.mk (by split <;> (try split) <;> omega) (by split <;> (try split) <;> omega))) <| aR rfl <| dn ?_
 refine WP.ret (aA.aD Y Y Y ?_)
 have hq1 : (b.At + (if 1099511627776 < (if 0 > dB then 0 else dB) then 1099511627776 else (if 0 > dB then 0 else dB)) : Int) = (zJ b dB) := by rfl
 exact ⟨by rw [hq1] <;> rfl, (K1.rm s0)⟩
theorem Jd {b : World} {S : Nat → Prop} {gl gn gt : Nat} {d9 : an3} {eu : Nat} {l : List ABeat} {now dB : Int} (hn : l.length ≤ 800000) :
    Iter Tryz.prog 115 [.pointer (some ⟨gl, 0, none⟩), .pointer (some ⟨gn, 0, none⟩), .pointer (some ⟨gt, 0, none⟩)] (fun (x : ABeat) => [.agg #[.int .i64 x.Node, .int .i64 x.At]]) (vI l now dB) b S [dG gl 27 [.slice d9 l.length eu], dG gn 3 [.int .i64 now], dG gt 3 [.int .i64 dB], fM tBeat d9 eu l] := by
 intro lr Jf Jx w F0 H0 h0 hY
 refine WP.Ul Tryz.func115 Y Tryz.ntmps115 Y ?_
 have K0 := Hp.comm (F := F0) H0
 have hf := Bo l
 refine rg <| ev (Ev.aj zK Y (K0.x s0) Y) <| WL.call Y Y Y acn (VJ _ (K0.s s3).any (by omega)) Y ?_
 rintro _ w1 ⟨mQ, mR, rfl, h1⟩
 have K1 := K0.f1 h1
 have Eu := (K1.o s0).aN
 refine ev (Ev.len Tryz.underlying27 Y) <| mv Y <| dn <| WP.block <| WP.lp (fun mJ lJ wJ => ∃ (k : Nat) (F : List jP), lJ = [(0, .func (.yield lr) #[] #[]), (2, .pointer (some ⟨gn, 0, none⟩)), (3, .pointer (some ⟨gt, 0, none⟩)), (8, .slice mQ ((dZ l).length) mR), (9, .int .i64 (((dZ l).length : Nat) : Int)), (10, .int .i64 ((k : Nat) : Int))] ∧ mJ = (dZ l).length - k ∧ k ≤ (dZ l).length ∧ (Jf (((dZ l).take k).filter (vH now dB)) F) ∧ Hp b S wJ (aQ tBeat 72 mQ mR (dZ l) :: dG gl 27 [.slice d9 l.length eu] :: dG gn 3 [.int .i64 now] :: dG gt 3 [.int .i64 dB] :: fM tBeat d9 eu l :: F)) ⟨0, F0, Y, Y, Nat.zero_le _, by simpa using h0, K1⟩ rfl ?_
 rintro _ _ w2 ⟨k, F, rfl, rfl, hk, YO, K2⟩
 refine rg <| ev (Ev.lss Y Y) <| dn ?_
 refine WP.cond Y (fun fK => ?_) (fun fK => ?_)
 ·
  replace fK := of_decide_eq_true fK
  refine WP.skip (aA.norm ?_)
  refine WP.seq <| WP.block <| rg ?_
  obtain ⟨x1, hx1⟩ := get_some (xs := dZ l) (i := k) (by omega)
  refine ev (Ev.index (i := k) Tryz.underlying27 pO Y Y Y (aC hx1) ((K2.o s0).some_ hx1)) <| ev (Ev.loadRow Es Y Y ((K2.o s0).dx hx1)) ?_
  refine al Jc Y K2 fun g1 w3 K3 => ?_
  refine iW Y Y Y pO K3 s0 Y Y fun w4 K4 => ?_
  refine dn <| WP.dr (by kernel_rfl) ?_
  have H1 := K4.grow (Ext.refl w4).drew
  refine WI.block (S := fun wK => Hp b S wK (dG g1 72 [.int .i64 x1.Node, .int .i64 x1.At] :: aQ tBeat 72 mQ mR (dZ l) :: dG gl 27 [.slice d9 l.length eu] :: dG gn 3 [.int .i64 now] :: dG gt 3 [.int .i64 dB] :: fM tBeat d9 eu l :: F)) [(0, 14, .int .i64 now), (1, 15, .agg #[.int .i64 x1.Node, .int .i64 x1.At]), (2, 16, .int .i64 dB), (3, 17, .int .i64 (zJ x1 dB)), (4, 18, .bool (decide (now ≤ zJ x1 dB))), (5, 19, .bool (decide (now ≤ zJ x1 dB)))] 5 (List.toArray [true, true, true, true, true, true, false, false, false, false, false]) (Ur (by kernel_rfl)) Y Y Y ?_ H1 ?_
  ·
   simp only [List.forall_mem_cons, List.not_mem_nil, false_implies, implies_true, and_true]
   refine ⟨?_, ?_, ?_, ?_, ?_, ?_⟩
   ·
    exact ⟨_, Y, Y, Y, Y, Qi.ev (fun _ hK => (Ev.aj bf Y (hK.x s3) Y))⟩
   ·
    exact ⟨_, Y, Y, Y, Y, Qi.ev (fun _ hK => (Ev.bX Es Y Y (hK.x s0)))⟩
   ·
    exact ⟨_, Y, Y, Y, Y, Qi.ev (fun _ hK => (Ev.aj bf Y (hK.x s4) Y))⟩
   ·
    exact ⟨_, Y, Y, Y, Y, Qi.call Y Y Y aco (fun _ hK => (YX (S0 := Any) _ x1 dB (Et (bV hx1)).2.2).mono (by rintro _ _ ⟨rfl, hq2⟩; exact ⟨rfl, hK.grow hq2.ext⟩))⟩
   ·
    exact ⟨_, Y, Y, Y, Y, Qi.ev (fun _ hK => (Ev.leq Y Y))⟩
   ·
    exact ⟨_, Y, Y, Y, Y, Qi.ev (fun _ hK => (Ev.move Y))⟩
  intro w5 K5
  cases Je : decide (now ≤ zJ x1 dB) with
  | true =>
   have VK := of_decide_eq_true Je
   refine WI.block (S := fun wK => Hp b S wK (dG g1 72 [.int .i64 x1.Node, .int .i64 x1.At] :: aQ tBeat 72 mQ mR (dZ l) :: dG gl 27 [.slice d9 l.length eu] :: dG gn 3 [.int .i64 now] :: dG gt 3 [.int .i64 dB] :: fM tBeat d9 eu l :: F)) [(6, 20, .func (.yield lr) #[] #[]), (7, 21, .agg #[.int .i64 x1.Node, .int .i64 x1.At])] 3 (List.toArray [true, true, true, true, true, true, true, true, false, false, false]) (by kernel_rfl) Y Y Y ?_ K5 ?_
   ·
    simp only [List.forall_mem_cons, List.not_mem_nil, false_implies, implies_true, and_true]
    refine ⟨?_, ?_⟩
    ·
     exact ⟨_, Y, Y, Y, Y, Qi.bF Y (fun _ hK => (Ev.move Y))⟩
    ·
     exact ⟨_, Y, Y, Y, Y, Qi.bF Y (fun _ hK => (Ev.bX Es Y Y (hK.x s0)))⟩
   intro w6 K6
   refine WI.one 8 (by kernel_rfl) Y ?_
   have hy1 := hY (((dZ l).take k).filter (vH now dB)) x1 _ _ _ YO (OI hx1 (by exact Je)) (Hp.comm (F := [dG g1 72 [.int .i64 x1.Node, .int .i64 x1.At], aQ tBeat 72 mQ mR (dZ l), dG gl 27 [.slice d9 l.length eu], dG gn 3 [.int .i64 now], dG gt 3 [.int .i64 dB], fM tBeat d9 eu l]) K6)
   refine WL.yield Y Y Y hy1 (by rintro e w' (⟨rfl, _⟩ | ⟨rfl, _⟩) <;> exact ⟨_, rfl⟩) rfl rfl rfl ?_
   rintro v w7 (⟨hv, F1, hJ1, K7⟩ | ⟨hv, F1, hJ1, K7⟩)
   ·
    cases hv
    have K7c := Hp.comm (F := F1) K7
    refine WI.nx ?_
    refine WI.block (S := fun wK => Hp b S wK (dG g1 72 [.int .i64 x1.Node, .int .i64 x1.At] :: aQ tBeat 72 mQ mR (dZ l) :: dG gl 27 [.slice d9 l.length eu] :: dG gn 3 [.int .i64 now] :: dG gt 3 [.int .i64 dB] :: fM tBeat d9 eu l :: F1)) [(9, 23, .bool false), (10, 24, .bool false)] 0 (List.toArray [true, true, true, true, true, true, true, true, true, true, true]) (by kernel_rfl) Y Y Y ?_ K7c ?_
    ·
     simp only [List.forall_mem_cons, List.not_mem_nil, false_implies, implies_true, and_true]
     refine ⟨?_, ?_⟩
     ·
      exact ⟨_, Y, Y, Y, Y, Qi.bF Y (fun _ hK => (Ev.not (b := true) Y))⟩
     ·
      exact ⟨_, Y, Y, Y, Y, Qi.ev (fun _ hK => (Ev.bq Y Y))⟩
    intro w8 K8
    refine WI.dn (by kernel_rfl) ?_
    refine WP.aG Y (fun _h => absurd _h (by decide)) (fun _h => ?_)
    refine WP.skip (aA.aS (aA.norm ?_))
    refine eP <| ev (Ev.add Y Y (eX.mk (by omega) (by omega))) <| mv Y <| eT ?_
    exact aA.ag ⟨(k + 1), F1, Y, Y, by omega, by rw [fQ hx1]; first | (rw [if_pos (show vH now dB x1 = true from Je)]; assumption) | (rw [if_neg (show ¬ vH now dB x1 = true by rw [show vH now dB x1 = false from Je]; decide), List.append_nil]; exact YO), (K8.rm s0)⟩ rfl (by omega)
   ·
    cases hv
    have K7c := Hp.comm (F := F1) K7
    refine WI.nx ?_
    refine WI.block (S := fun wK => Hp b S wK (dG g1 72 [.int .i64 x1.Node, .int .i64 x1.At] :: aQ tBeat 72 mQ mR (dZ l) :: dG gl 27 [.slice d9 l.length eu] :: dG gn 3 [.int .i64 now] :: dG gt 3 [.int .i64 dB] :: fM tBeat d9 eu l :: F1)) [(9, 23, .bool true), (10, 24, .bool true)] 0 (List.toArray [true, true, true, true, true, true, true, true, true, true, true]) (by kernel_rfl) Y Y Y ?_ K7c ?_
    ·
     simp only [List.forall_mem_cons, List.not_mem_nil, false_implies, implies_true, and_true]
     refine ⟨?_, ?_⟩
     ·
      exact ⟨_, Y, Y, Y, Y, Qi.bF Y (fun _ hK => (Ev.not (b := false) Y))⟩
     ·
      exact ⟨_, Y, Y, Y, Y, Qi.ev (fun _ hK => (Ev.bq Y Y))⟩
    intro w9 K9
    refine WI.dn (by kernel_rfl) ?_
    refine WP.aG Y (fun _h => ?_) (fun _h => absurd _h (by decide))
    exact WP.ret (aA.bW (aA.aP (aA.aP (aA.bW (aA.Yq Y ⟨⟨_, Y⟩, .inr ⟨_, _, hJ1, ((((((K9.rm s5).rm s4).rm s3).rm s2).rm s1).rm s0)⟩⟩)))))
  | false =>
   have VK := of_decide_eq_false Je
   refine WI.block (S := fun wK => Hp b S wK (dG g1 72 [.int .i64 x1.Node, .int .i64 x1.At] :: aQ tBeat 72 mQ mR (dZ l) :: dG gl 27 [.slice d9 l.length eu] :: dG gn 3 [.int .i64 now] :: dG gt 3 [.int .i64 dB] :: fM tBeat d9 eu l :: F)) [(6, 20, undef), (7, 21, undef), (8, 22, undef), (9, 23, undef), (10, 24, .bool false)] 0 (List.toArray [true, true, true, true, true, true, true, true, true, true, true]) (by kernel_rfl) Y Y Y ?_ K5 ?_
   ·
    simp only [List.forall_mem_cons, List.not_mem_nil, false_implies, implies_true, and_true]
    refine ⟨?_, ?_, ?_, ?_, ?_⟩
    ·
     exact ⟨_, Y, Y, Y, Y, Qi.pass Y Y⟩
    ·
     exact ⟨_, Y, Y, Y, Y, Qi.pass Y Y⟩
    ·
     exact ⟨_, Y, Y, Y, Y, Qi.pass Y Y⟩
    ·
     exact ⟨_, Y, Y, Y, Y, Qi.pass Y Y⟩
    ·
     exact ⟨_, Y, Y, Y, Y, Qi.ev (fun _ hK => (Ev.bn Y Y))⟩
   intro J8 K10
   refine WI.dn (by kernel_rfl) ?_
   refine WP.aG Y (fun _h => absurd _h (by decide)) (fun _h => ?_)
   refine WP.skip (aA.aS (aA.norm ?_))
   refine eP <| ev (Ev.add Y Y (eX.mk (by omega) (by omega))) <| mv Y <| eT ?_
   exact aA.ag ⟨(k + 1), F, Y, Y, by omega, by rw [fQ hx1]; first | (rw [if_pos (show vH now dB x1 = true from Je)]; assumption) | (rw [if_neg (show ¬ vH now dB x1 = true by rw [show vH now dB x1 = false from Je]; decide), List.append_nil]; exact YO), (K10.rm s0)⟩ rfl (by omega)
 replace fK := of_decide_eq_false fK
 exact WP.exit (aA.aF (aA.aF (aA.bS (aA.Zu (aA.Yq Y ⟨⟨_, Y⟩, .inl ⟨_, by rw [List.take_of_length_le (by omega)] at YO; exact YO, (((((K2.rm s4).rm s3).rm s2).rm s1).rm s0)⟩⟩)))))
theorem Sv {S0 : Nat → Prop} (w : World) {d9 : an3} {eu : Nat} {l : List ABeat} (dN : Sl tBeat S0 w d9 eu l) (now : Int) (dB : Int) :
    bY Tryz.prog 71 #[.slice d9 l.length eu, .int .i64 now, .int .i64 dB] w fun v w' => ∃ (Vb : Nat) (Lc : Nat) (aeV : Nat), v = .func (.func 115) #[] #[.pointer (some ⟨Vb, 0, none⟩), .pointer (some ⟨Lc, 0, none⟩), .pointer (some ⟨aeV, 0, none⟩)] ∧ Hp w S0 w' [dG Vb 27 [.slice d9 l.length eu], dG Lc 3 [.int .i64 now], dG aeV 3 [.int .i64 dB]] := by
 refine WP.enter Tryz.func71 Y Tryz.ntmps71 Y ?_
 have H0 := Hp.init w S0
 have iJ := dN.aN
 refine rg ?_
 refine bx Y Y H0 fun g1 w1 K1 => ?_
 refine bx Y Y K1 fun g2 w2 K2 => ?_
 refine bx Y Y K2 fun g3 w3 K3 => ?_
 refine aR Y <| dn <| rg <| ev (Ev.func Y) <| aR Y <| dn ?_
 refine WP.ret (aA.aD Y Y Y ?_)
 exact ⟨g1, g2, g3, Y, (((K3.sel s0).sel s1).sel s2)⟩
theorem F6 {S0 : Nat → Prop} (w : World) {d9 : an3} {eu : Nat} {l : List ABeat} (dN : Sl tBeat S0 w d9 eu l) (now : Int) (dB : Int) (hn : l.length ≤ 800000) :
    bY Tryz.prog 28 #[.slice d9 l.length eu, .int .i64 now, .int .i64 dB] w fun v w' => ∃ (A0 : an3) (c0 : Nat), v = .slice A0 (((vI l now dB).map ABeat.Node).length) c0 ∧ Hp w S0 w' [aQ tInt 3 A0 c0 ((vI l now dB).map ABeat.Node)] := by
 refine WP.Uk Tryz.func28 Y Tryz.ntmps28 Y ?_
 have H0 := Hp.init w S0
 have iJ := dN.aN
 have hlv : (vI l now dB).length ≤ 800000 := by have h1 := List.length_filter_le (vH now dB) (dZ l); have h2 := Bo l; unfold vI; omega
 refine rg <| aR Y <| dn <| rg ?_
 refine al Qu Y H0 fun g1 w1 K1 => ?_
 refine dn <| WP.seq <| rg <| mv Y <| mv Y <| mv Y <| WL.call Y Y Y aeU (Sv _ (K1.a dN).any now dB) Y ?_
 rintro _ w2 ⟨acr, acs, acu, rfl, h2⟩
 have K2 := K1.f3 h2
 refine dn <| WP.block ?_
 have H1 := K2.push (K2.a dN)
 have H2 := H1.nil tInt 3
 refine WP.range (enc := fun (x : ABeat) => [.agg #[.int .i64 x.Node, .int .i64 x.At]]) (ys := vI l now dB) (F0 := [dG g1 51 [.slice none (([].map ABeat.Node).length) 0], aQ tInt 3 none 0 []]) (G0 := [dG acr 27 [.slice d9 l.length eu], dG acs 3 [.int .i64 now], dG acu 3 [.int .i64 dB], fM tBeat d9 eu l]) Y acp (Jd (by omega)) ((((((H2.sel s1).sel s4).sel s4).sel s4).sel s4).sel s5) (fun _ => Y) Y (fun pre F => ∃ (A : an3) (c : Nat), F = [dG g1 51 [.slice A ((pre.map ABeat.Node).length) c], aQ tInt 3 A c (pre.map ABeat.Node)]) (fun c pre F => False) (fun pre x l1 F => ∃ (A : an3) (c : Nat) (NG : Nat), l1 = [(7, .pointer (some ⟨g1, 0, none⟩)), (8, .pointer (some ⟨NG, 0, none⟩))] ∧ F = [dG NG 72 [.int .i64 x.Node, .int .i64 x.At], dG g1 51 [.slice A ((pre.map ABeat.Node).length) c], aQ tInt 3 A c (pre.map ABeat.Node)]) ⟨none, 0, Y⟩ ?_ ?_ ?_ ?_
 ·
  rintro lr pre x _ G w3 ⟨A, c, rfl⟩ hpre K3
  refine eP ?_
  refine al Jc Y K3 fun g2 w4 K4 => ?_
  refine iW Y Y Y pO K4 s0 Y Y fun w5 K5 => ?_
  refine eT ?_
  exact aA.ap ⟨A, c, g2, Y, Y⟩ Y K5
 ·
  rintro lr pre x _ _ G w6 ⟨A, c, NG, rfl, rfl⟩ hpre K6
  have hpl : (pre.map ABeat.Node).length ≤ 800000 := by have h1 := hpre.length_le; simp at h1 ⊢; omega
  refine WP.block <| eP <| ev (Ev.aj gK Y (K6.x s1) Y) <| ev (Ev.field (q := ⟨NG, 0, none⟩) nZ Y Y) <| ev (Ev.aj bf Y (K6.x s0) Y) ?_
  refine ni (τ := tInt) (x := x.Node) Y (by intro _; apply jk) rfl K6 (fun _ _ => rfl) fun g3 w7 K7 => ?_
  refine ap (ys := ([x.Node] : List Int)) K7 s3 Y Y (K7.o s0) Tryz.underlying51 uF (by omega) (by simp) Y fun jg jh w8 K8 => ?_
  refine BK Y Y Y zm K8 s3 Y fun w9 K9 => ?_
  refine eT <| aA.aS ?_
  have hq1 : (((pre.map ABeat.Node) ++ ([x.Node] : List Int)) : List Int) = ((pre ++ [x]).map ABeat.Node) := by simp
  rw [hq1] at K9
  exact aA.rn ⟨jg, jh, Y⟩ ((K9.rm s3).rm s2)
 ·
  rintro D _ J8 ⟨A, c, rfl⟩ K10
  refine aA.aS (aA.norm ?_)
  refine rg <| ev (Ev.aj gK Y (K10.x s1) Y) <| aR Y <| dn ?_
  refine WP.ret (aA.aa1 K10 Y fun Om qb => ⟨_, ⟨_, _, Y, Y, Y⟩, ?_⟩)
  exact ⟨A, c, Y, (qb.rm s0)⟩
 ·
  rintro D c pre F w h _
  exact h.elim
end Go.Proofs.YtjcklpooaaaglaaGreat
