/- Texts that the statement needs, with short names. -/
import Derived.Test.YtjcklpooaaaglaaGreatvG3
set_option maxRecDepth 4000
set_option linter.all false
namespace Go.Proofs.YtjcklpooaaaglaaGreat
open Go.RowKit
structure ANode where
  ID : Int
  dA : Int
  fI : Int
  dz : Int
  deriving DecidableEq
def ANode.enc (x : ANode) : List Value := [.int .i64 x.ID, .int .i64 x.dA, .int .i64 x.fI, .int .i64 x.dz]
theorem ANode.iB (x : ANode) : ∀ u ∈ x.enc, u.oneCell' = true := by
  intro u hu
  simp only [ANode.enc, List.mem_cons, List.not_mem_nil, or_false] at hu
  rcases hu with rfl | rfl | rfl | rfl <;> rfl
def ANode.wf (x : ANode) : Prop := InI64 x.ID ∧ InI64 x.dA ∧ InI64 x.fI ∧ InI64 x.dz
def tNode : Ty ANode := Ty.flat 4 ANode.enc (by decide) (fun _ => rfl) ANode.iB
instance : Flat tNode := ⟨fun h => h⟩
def sD (n : ANode) : Bool := (((decide (1 ≤ n.ID) && decide (n.ID ≤ 16)) && (decide (1 ≤ n.dA) && decide (n.dA ≤ 8))) && (decide (1 ≤ n.fI) && decide (n.fI ≤ 16))) && (decide (0 ≤ n.dz) && decide (n.dz ≤ 2))
def jQ : Int → List ANode → Bool
  | _, [] => true
  | z, n :: l => !(!sD n || decide (n.ID ≤ z)) && jQ n.ID l
def sF (l : List ANode) : Bool := jQ 0 l
def dD (l : List ANode) : List ANode := if sF l then l else []
theorem DW {z : Int} {l : List ANode} {k : Nat} {x : ANode} (hx : l[k]? = some x) : jQ z (l.drop k) = (!(!sD x || decide (x.ID ≤ z)) && jQ x.ID (l.drop (k + 1))) := by
  rw [List.drop_eq_getElem_cons (aC hx), (List.getElem?_eq_some_iff.1 hx).2]; rfl
theorem wL : ∀ (l : List ANode) (z : Int), jQ z l = true → ∀ n ∈ l, z < n.ID ∧ sD n = true
  | [], _, _, n, hn => by simp at hn
  | m :: l, z, h, n, hn => by
    simp only [jQ, Bool.and_eq_true, Bool.not_eq_true', Bool.or_eq_false_iff, Bool.not_eq_false', decide_eq_false_iff_not] at h
    rcases List.mem_cons.1 hn with rfl | hn
    · exact ⟨by omega, h.1.1⟩
    · have := wL l _ h.2 n hn; exact ⟨by omega, this.2⟩
theorem zo : ∀ (l : List ANode) (z : Int), jQ z l = true → Up ANode.ID l
  | [], _, _ => List.Pairwise.nil
  | m :: l, z, h => by
    simp only [jQ, Bool.and_eq_true, Bool.not_eq_true', Bool.or_eq_false_iff, Bool.not_eq_false', decide_eq_false_iff_not] at h
    exact List.pairwise_cons.2 ⟨fun x hx => (wL l _ h.2 x hx).1, zo l _ h.2⟩
theorem xI (l : List ANode) : (dD l).length ≤ l.length := by unfold dD; split <;> simp
theorem GL (l : List ANode) : sF (dD l) = true := by
  unfold dD; split
  · assumption
  · rfl
theorem wM (l : List ANode) : Up ANode.ID (dD l) := zo _ 0 (GL l)
theorem DX {l : List ANode} (h : sF l = true) : dD l = l := by unfold dD; rw [if_pos h]
theorem xJ {l : List ANode} (h : sF l = false) : dD l = [] := by unfold dD; rw [h]; rfl
def bL (l : List ANode) (id : Int) : ANode := match (dD l)[low (fun (y : ANode) => dP y.ID id) (dD l)]? with | some c => if c.ID = id then c else ⟨0, 0, 0, 0⟩ | none => ⟨0, 0, 0, 0⟩
def bZ (l : List ANode) (id : Int) : Bool := hits (fun (y : ANode) => dP y.ID id) (dD l)
theorem GN {l : List ANode} {id : Int} (h : hits (fun (y : ANode) => dP y.ID id) (dD l) = false) : bL l id = ⟨0, 0, 0, 0⟩ := by
  unfold bL; split
  · rename_i c hc
    rw [if_neg]
    intro e
    have := (wu (wM l) id).2 ⟨c, bV hc, e⟩
    rw [h] at this; cases this
  · rfl
theorem uG {l : List ANode} {id : Int} {c : ANode} (h : hits (fun (y : ANode) => dP y.ID id) (dD l) = true) (hc : (dD l)[low (fun (y : ANode) => dP y.ID id) (dD l)]? = some c) : bL l id = c := by
  unfold bL; rw [hc]
  obtain ⟨x, hx, hk⟩ := pV (key := ANode.ID) h
  rw [hc] at hx; cases hx
  exact if_pos hk
theorem dV : dL Tryz.prog 63 0 0 := fun _ _ => by kernel_rfl
theorem IY : aM Tryz.prog 184 := fun _ _ => by kernel_rfl
theorem l7 : dL Tryz.prog 63 1 1 := fun _ _ => by kernel_rfl
theorem pY : dL Tryz.prog 63 2 2 := fun _ _ => by kernel_rfl
theorem nU : dL Tryz.prog 63 3 3 := fun _ _ => by kernel_rfl
theorem eO : Size Tryz.prog 63 4 := fun _ => by kernel_rfl
theorem kU : NT Tryz.prog 63 4 := ⟨fun _ => by kernel_rfl, eO⟩
theorem iM : ∀ w, (zeroValue 63).run Tryz.prog w = .ok (.agg #[.int .i64 0, .int .i64 0, .int .i64 0, .int .i64 0]) w := fun _ => by kernel_rfl
theorem abh : aM Tryz.prog 166 := fun _ _ => by kernel_rfl
theorem UQ  : ∀ w, (Instr.buildSlice 22 0 (List.toArray [])).run Tryz.prog w = .ok (.slice (some ⟨w.heap.size, 0, none⟩) 0 0) (w.alloc (.cells (List.toArray []) 63)) := fun _ => by kernel_rfl
theorem ZF : je Tryz.prog 63 4 32 := by
  obtain ⟨i, h1, h2, h3, h4⟩ := info_parts (show (Tryz.prog.info? 63).map (fun i => (i.zero, i.size, i.bytes)) = some (some (.agg #[.int .i64 0, .int .i64 0, .int .i64 0, .int .i64 0]), 4, 32) by kernel_rfl)
  exact ⟨i, _, h1, h2, h3, h4, Y⟩
theorem Og : aM Tryz.prog 118 := fun _ _ => by kernel_rfl
theorem IZ : aM Tryz.prog 119 := fun _ _ => by kernel_rfl
theorem abj : aM Tryz.prog 121 := fun _ _ => by kernel_rfl
theorem abk : aM Tryz.prog 120 := fun _ _ => by kernel_rfl
theorem aek : aM Tryz.prog 72 := fun _ _ => by kernel_rfl
theorem ael : aM Tryz.prog 73 := fun _ _ => by kernel_rfl
theorem UR  : Tryz.prog.built 63 [] = some #[.int .i64 0, .int .i64 0, .int .i64 0, .int .i64 0] := by kernel_rfl
theorem uH {S0 : Nat → Prop} (w : World) (n : Int) (lZ : Int) (most : Int) :
    bY Tryz.prog 184 #[.int .i64 n, .int .i64 lZ, .int .i64 most] w fun v w' => v = .bool (decide (lZ ≤ n) && decide (n ≤ most)) ∧ Hp w S0 w' [] := by
 refine WP.enter Tryz.func184 Y Tryz.ntmps184 Y ?_
 have H0 := Hp.init w S0
 refine rg <| aR Y <| dn <| rg <| mv Y <| mv Y <| ev (Ev.geq Y Y) <| mv Y ?_
 refine WL.dR 4 14 ((decide (lZ ≤ n)) && (decide (n ≤ most))) ?_ ?_
 ·
  cases UU : decide (lZ ≤ n) with
  | true =>
   have ZG := of_decide_eq_true UU
   refine WL.bF Y (Ev.move Y) Y <| WL.bF Y (Ev.move Y) Y <| WL.bF Y (Ev.leq Y Y) Y <| ev (Ev.bq Y Y) ?_
   exact WL.bM Y
  | false =>
   refine WL.pass Y Y Y <| WL.pass Y Y Y <| WL.pass Y Y Y <| ev (Ev.bn Y Y) ?_
   exact WL.bM Y
 refine aR Y <| dn ?_
 refine WP.ret (aA.aD Y Y Y ?_)
 have hq1 : (((decide (lZ ≤ n)) && (decide (n ≤ most))) : Bool) = (decide (lZ ≤ n) && decide (n ≤ most)) := by first | with_reducible rfl | (simp; done) | omega
 exact ⟨by rw [hq1] <;> rfl, H0⟩
theorem YG {S0 : Nat → Prop} (w : World) (n : ANode) :
    bY Tryz.prog 166 #[.agg #[.int .i64 n.ID, .int .i64 n.dA, .int .i64 n.fI, .int .i64 n.dz]] w fun v w' => v = .bool (sD n) ∧ Hp w S0 w' [] := by
 refine WP.enter Tryz.func166 Y Tryz.ntmps166 Y ?_
 have H0 := Hp.init w S0
 refine rg ?_
 refine bx Y Y H0 fun g1 w1 K1 => ?_
 refine aR Y <| dn <| rg <| ev (Ev.field (q := ⟨g1, 0, none⟩) dV Y Y) <| ev (Ev.aj bf Y (K1.x s0) Y) ?_
 refine C0 K1 Y Y Y IY (uH (S0 := Any) _ n.ID 1 16) fun w2 K2 => ?_
 refine mv Y ?_
 refine WL.oI 4 10 ((decide (1 ≤ n.ID) && decide (n.ID ≤ 16)) && (decide (1 ≤ n.dA) && decide (n.dA ≤ 8))) ?_ ?_
 ·
  cases hb6 : (decide (1 ≤ n.ID) && decide (n.ID ≤ 16)) with
  | true =>
   have YH := hb6
   try simp only [Bool.and_eq_true, Bool.and_eq_false_imp, decide_eq_true_eq, decide_eq_false_iff_not] at YH
   refine WL.bF Y (Ev.field (q := ⟨g1, 1, none⟩) l7 Y Y) Y <| WL.bF Y (Ev.aj bf Y (K2.x s0) Y) Y <| WL.jd Y Y Y Y IY (uH (S0 := Any) _ n.dA 1 8) Y ?_
   rintro _ w3 ⟨rfl, h3⟩
   have K3 := K2.c0 h3
   refine ev (Ev.bq Y Y) ?_
   exact WL.iY Y h3.ext
  | false =>
   refine WL.pass Y Y Y <| WL.pass Y Y Y <| WL.pass Y Y Y <| ev (Ev.bn Y Y) ?_
   exact WL.iY Y (Ext.refl _)
 intro w4 e4
 have K4 := K2.grow e4
 refine mv Y ?_
 refine WL.oI 4 15 (((decide (1 ≤ n.ID) && decide (n.ID ≤ 16)) && (decide (1 ≤ n.dA) && decide (n.dA ≤ 8))) && (decide (1 ≤ n.fI) && decide (n.fI ≤ 16))) ?_ ?_
 ·
  cases AX : ((decide (1 ≤ n.ID) && decide (n.ID ≤ 16)) && (decide (1 ≤ n.dA) && decide (n.dA ≤ 8))) with
  | true =>
   have tJ := AX
   try simp only [Bool.and_eq_true, Bool.and_eq_false_imp, decide_eq_true_eq, decide_eq_false_iff_not] at tJ
   refine WL.bF Y (Ev.field (q := ⟨g1, 2, none⟩) pY Y Y) Y <| WL.bF Y (Ev.aj bf Y (K4.x s0) Y) Y <| WL.jd Y Y Y Y IY (uH (S0 := Any) _ n.fI 1 16) Y ?_
   rintro _ w5 ⟨rfl, h5⟩
   have K5 := K4.c0 h5
   refine ev (Ev.bq Y Y) ?_
   exact WL.iY Y h5.ext
  | false =>
   refine WL.pass Y Y Y <| WL.pass Y Y Y <| WL.pass Y Y Y <| ev (Ev.bn Y Y) ?_
   exact WL.iY Y (Ext.refl _)
 intro w6 e6
 have K6 := K4.grow e6
 refine mv Y ?_
 refine WL.oI 4 20 ((((decide (1 ≤ n.ID) && decide (n.ID ≤ 16)) && (decide (1 ≤ n.dA) && decide (n.dA ≤ 8))) && (decide (1 ≤ n.fI) && decide (n.fI ≤ 16))) && (decide (0 ≤ n.dz) && decide (n.dz ≤ 2))) ?_ ?_
 ·
  cases CO : (((decide (1 ≤ n.ID) && decide (n.ID ≤ 16)) && (decide (1 ≤ n.dA) && decide (n.dA ≤ 8))) && (decide (1 ≤ n.fI) && decide (n.fI ≤ 16))) with
  | true =>
   have yB := CO
   try simp only [Bool.and_eq_true, Bool.and_eq_false_imp, decide_eq_true_eq, decide_eq_false_iff_not] at yB
   refine WL.bF Y (Ev.field (q := ⟨g1, 3, none⟩) nU Y Y) Y <| WL.bF Y (Ev.aj bf Y (K6.x s0) Y) Y <| WL.jd Y Y Y Y IY (uH (S0 := Any) _ n.dz 0 2) Y ?_
   rintro _ w7 ⟨rfl, h7⟩
   have K7 := K6.c0 h7
   refine ev (Ev.bq Y Y) ?_
   exact WL.iY Y h7.ext
  | false =>
   refine WL.pass Y Y Y <| WL.pass Y Y Y <| WL.pass Y Y Y <| ev (Ev.bn Y Y) ?_
   exact WL.iY Y (Ext.refl _)
 intro w8 e8
 have K8 := K6.grow e8
 refine aR Y <| dn ?_
 refine WP.ret (aA.aD Y Y Y ?_)
 have hq1 : (((((decide (1 ≤ n.ID) && decide (n.ID ≤ 16)) && (decide (1 ≤ n.dA) && decide (n.dA ≤ 8))) && (decide (1 ≤ n.fI) && decide (n.fI ≤ 16))) && (decide (0 ≤ n.dz) && decide (n.dz ≤ 2))) : Bool) = (sD n) := by rfl
 exact ⟨by rw [hq1] <;> rfl, (K8.rm s0)⟩
theorem I4 {S0 : Nat → Prop} (w : World) {d9 : an3} {eu : Nat} {l : List ANode} (dN : Sl tNode S0 w d9 eu l) :
    bY Tryz.prog 118 #[.slice d9 l.length eu] w fun v w' => v = .bool (sF l) ∧ Hp w S0 w' [] := by
 refine WP.enter Tryz.func118 Y Tryz.ntmps118 Y ?_
 have H0 := Hp.init w S0
 have iJ := dN.aN
 refine rg <| aR Y <| dn <| rg <| aR Y <| dn <| WP.seq <| rg <| mv Y <| ev (Ev.len Tryz.underlying22 Y) <| mv Y <| dn <| WP.block <| Lp H0 (fun l0 rk mJ lJ wJ => ∃ (k : Nat) (z : Int), lJ = (3, .int .i64 z) :: (8, .int .i64 ((k : Nat) : Int)) :: l0 ∧ mJ = l.length - k ∧ k ≤ l.length ∧ (jQ 0 l = jQ z (l.drop k)) ∧ Hp w S0 wJ rk) ⟨0, 0, Y, Y, Nat.zero_le _, by simp, H0⟩ rfl ?_
 rintro _ _ w1 ⟨k, z, rfl, rfl, hk, hz, K1⟩
 refine rg <| ev (Ev.lss Y Y) <| dn ?_
 refine WP.cond Y (fun jE => ?_) (fun jE => ?_)
 ·
  replace jE := of_decide_eq_true jE
  refine WP.skip (aA.norm ?_)
  refine WP.seq <| WP.block <| rg ?_
  obtain ⟨x1, hx1⟩ := get_some (xs := l) (i := k) (by omega)
  refine ev (Ev.index (i := k) Tryz.underlying22 eO Y Y Y (aC hx1) ((K1.a dN).some_ hx1)) <| ev (Ev.loadRow kU Y Y ((K1.a dN).dx hx1)) ?_
  refine al iM Y K1 fun g1 w2 K2 => ?_
  refine iW Y Y Y eO K2 s0 Y Y fun w3 K3 => ?_
  refine dn <| WP.seq <| rg <| ev (Ev.bX kU Y Y (K3.x s0)) ?_
  refine C0 K3 Y Y Y abh (YG (S0 := Any) _ x1) fun w4 K4 => ?_
  refine ev (Ev.not Y) <| mv Y ?_
  refine WL.dR 5 20 ((!(sD x1)) || (decide (x1.ID ≤ z))) ?_ ?_
  ·
   cases IV : (!(sD x1)) with
   | true =>
    refine WL.pass Y Y Y <| WL.pass Y Y Y <| WL.pass Y Y Y <| WL.pass Y Y Y <| ev (Ev.bq Y Y) ?_
    exact WL.bM Y
   | false =>
    refine WL.bF Y (Ev.field (q := ⟨g1, 0, none⟩) dV Y Y) Y <| WL.bF Y (Ev.aj bf Y (K4.x s0) Y) Y <| WL.bF Y (Ev.move Y) Y ?_
    refine WL.bF Y (Ev.leq Y Y) Y <| ev (Ev.bn Y Y) ?_
    exact WL.bM Y
  refine dn ?_
  refine WP.aG Y (fun iX => ?_) (fun iX => ?_)
  ·
   refine rg <| aR Y <| dn ?_
   refine WP.ret (aA.aP (aA.bW (aA.aP (aA.aP (aA.bW (aA.aP (aA.aD Y Y Y ?_)))))))
   have hq1 : (false : Bool) = (sF l) := by symm; unfold sF; rw [hz, DW hx1, iX]; rfl
   exact ⟨by rw [← hq1] <;> rfl, (K4.rm s0)⟩
  refine WP.skip (aA.norm ?_)
  refine eP <| ev (Ev.field (q := ⟨g1, 0, none⟩) dV Y Y) <| ev (Ev.aj bf Y (K4.x s0) Y) <| aR Y <| eT <| aA.aS (aA.norm ?_)
  refine eP <| ev (Ev.add Y Y (eX.mk (by omega) (by omega))) <| mv Y <| eT ?_
  exact aA.ag ⟨(k + 1), x1.ID, Y, Y, by omega, by rw [hz, DW hx1, iX]; rfl, (K4.rm s0)⟩ rfl (by omega)
 replace jE := of_decide_eq_false jE
 refine WP.exit (aA.aF (aA.aF (aA.bS (aA.norm ?_))))
 refine rg <| aR Y <| dn ?_
 refine WP.ret (aA.aD Y Y Y ?_)
 have hq2 : (true : Bool) = (sF l) := by symm; unfold sF; rw [hz, List.drop_of_length_le (by omega)]; rfl
 exact ⟨by rw [← hq2] <;> rfl, K1⟩
theorem p8 {S0 : Nat → Prop} (w : World) {qE : an3} {qF : Nat} {s : List ANode} (j3 : Sl tNode S0 w qE qF s) (hn : s.length ≤ 1000000) :
    bY Tryz.prog 119 #[.slice qE s.length qF] w fun v w' => ∃ (A0 : an3) (c0 : Nat), v = .slice A0 s.length c0 ∧ Hp w S0 w' [aQ tNode 63 A0 c0 s] := by
 refine WP.enter Tryz.func119 Y Tryz.ntmps119 Y ?_
 have H0 := Hp.init w S0
 have yH := j3.aN
 refine rg <| aR Y <| dn <| WP.seq <| rg <| mv Y <| ev (Ev.Gn Tryz.underlying22 Y Y) <| dn ?_
 refine WP.aG Y (fun hc4 => ?_) (fun hc4 => ?_)
 ·
  refine rg <| aR Y <| dn ?_
  refine WP.ret (aA.aP (aA.aD Y Y Y ?_))
  have H1 := H0.nil tNode 63
  have hq1 : (([] : List ANode) : List ANode) = s := by have h1 := j3.nil (by simpa using hc4); have h2 := j3.cap; exact (List.eq_nil_of_length_eq_zero (by omega)).symm
  have H2 := (hq1 ▸ H1 : Hp w S0 w (aQ tNode 63 none 0 s :: []))
  exact ⟨none, 0, by rw [← hq1] <;> rfl, H2⟩
 refine WP.skip (aA.norm ?_)
 refine rg ?_
 refine bs0 (τ := tNode) (vs := []) Y (by intro _; apply UQ) rfl H0 fun g1 w1 K1 => ?_
 refine mv Y ?_
 refine ap (ys := s) K1 s0 Y Y (K1.a j3).any Tryz.underlying22 ZF (by simp) (by first | omega | (simp; omega) | (simp; done)) rfl fun jg jh w2 K2 => ?_
 refine aR Y <| dn ?_
 refine WP.ret (aA.aD Y Y Y ?_)
 have hq2 : ((([] : List ANode) ++ s) : List ANode) = s := by simp
 rw [hq2] at K2
 exact ⟨jg, jh, by rw [hq2] <;> rfl, K2⟩
theorem UW {S0 : Nat → Prop} (w : World) {d9 : an3} {eu : Nat} {l : List ANode} (dN : Sl tNode S0 w d9 eu l) (hn : l.length ≤ 100000) :
    bY Tryz.prog 72 #[.slice d9 l.length eu] w fun v w' => ∃ (A0 : an3) (c0 : Nat), v = .slice A0 ((dD l).length) c0 ∧ Hp w S0 w' [aQ tNode 63 A0 c0 (dD l)] := by
 refine WP.enter Tryz.func72 Y Tryz.ntmps72 Y ?_
 have H0 := Hp.init w S0
 have iJ := dN.aN
 refine rg <| aR Y <| dn <| WP.seq <| rg <| mv Y ?_
 refine C0 H0 Y Y Y Og (I4 _ (H0.a dN).any) fun w1 K1 => ?_
 refine ev (Ev.not Y) <| dn ?_
 refine WP.aG Y (fun hc5 => ?_) (fun hc5 => ?_)
 ·
  try simp only [an4, an5, an6, an7, an8, an9, aoa, aob] at hc5
  refine rg <| aR Y <| dn ?_
  refine WP.ret (aA.aP (aA.aD Y Y Y ?_))
  have H1 := K1.nil tNode 63
  have hq1 : (([] : List ANode) : List ANode) = (dD l) := by exact (xJ hc5).symm
  have H2 := (hq1 ▸ H1 : Hp w S0 w1 (aQ tNode 63 none 0 (dD l) :: []))
  exact ⟨none, 0, by rw [← hq1] <;> rfl, H2⟩
 try simp only [an4, an5, an6, an7, an8, an9, aoa, aob] at hc5
 refine WP.skip (aA.norm ?_)
 refine rg <| mv Y <| WL.call Y Y Y IZ (p8 _ (K1.a dN).any (by omega)) Y ?_
 rintro _ w2 ⟨lD, lF, rfl, h2⟩
 have K2 := K1.f1 h2
 refine aR Y <| dn ?_
 refine WP.ret (aA.aD Y Y Y ?_)
 have hq2 : (l : List ANode) = (dD l) := by exact (DX hc5).symm
 have H3 := (hq2 ▸ K2 : Hp w S0 w2 [aQ tNode 63 lD lF (dD l)])
 exact ⟨lD, lF, by rw [← hq2] <;> rfl, H3⟩
theorem DY {S0 : Nat → Prop} (w : World) {qE : an3} {qF : Nat} {s : List ANode} (j3 : Sl tNode S0 w qE qF s) (target : Int) {Aw : FuncId} {Az : List Value} (Oa : aM Tryz.prog Aw) (f : ANode → Int → Int) (Ob : ∀ (w' : World) (x : ANode) (t : Int), Ext w w' → True → bY Tryz.prog Aw (([.agg #[.int .i64 x.ID, .int .i64 x.dA, .int .i64 x.fI, .int .i64 x.dz], .int .i64 t] : List Value) ++ Az).toArray w' fun v w'' => v = .int .i64 (f x t) ∧ Ext w' w'') (hm : aaW (fun (y : ANode) => f y target) s) (hn : s.length ≤ 1000000) :
    bY Tryz.prog 120 #[.slice qE s.length qF, .int .i64 target, .func (.func Aw) #[] Az.toArray] w fun v w' => v = .tuple #[.int .i64 ((low (fun (y : ANode) => f y target) s : Nat) : Int), .bool (hits (fun (y : ANode) => f y target) s)] ∧ Hp w S0 w' [] := by
 refine WP.enter Tryz.func120 Y Tryz.ntmps120 Y ?_
 have H0 := Hp.init w S0
 have yH := j3.aN
 refine rg <| aR Y <| aR Y <| dn <| rg <| mv Y <| ev (Ev.len Tryz.underlying22 Y) <| aR Y <| dn <| rg <| mv Y <| aR Y <| aR Y <| dn <| WP.seq ?_
 refine WP.block <| Lp H0 (fun l0 rk mJ lJ wJ => ∃ (i j : Nat), lJ = (9, .int .i64 ((i : Nat) : Int)) :: (10, .int .i64 ((j : Nat) : Int)) :: l0 ∧ mJ = j - i ∧ (i ≤ j ∧ j ≤ s.length) ∧ (∀ (a : Nat) (y : ANode), a < i → s[a]? = some y → f y target < 0) ∧ (∀ (a : Nat) (y : ANode), j ≤ a → s[a]? = some y → ¬ f y target < 0) ∧ Hp w S0 wJ rk) ⟨0, s.length, Y, Y, by exact ⟨Nat.zero_le _, Nat.le_refl _⟩, by intro a y ha; omega, by intro a y ha hy; have := aC hy; omega, H0⟩ rfl ?_
 rintro _ _ w1 ⟨i, j, rfl, rfl, hij, hlo, hhi, K1⟩
 refine WP.seq <| rg <| mv Y <| mv Y <| ev (Ev.lss Y Y) <| dn ?_
 refine WP.aG Y (fun hc17 => ?_) (fun hc17 => ?_)
 ·
  replace hc17 := of_decide_eq_true hc17
  refine WP.skip (aA.norm ?_)
  refine WP.block <| rg <| mv Y <| mv Y <| ev (Ev.add Y Y (eX.mk (by omega) (by omega))) <| ev (Ev.CY (m := i + j) tu.1 tu.2.1 tu.2.2 Y (zi (by omega))) <| ev (Ev.ad3 (m := i + j) Y Y) <| ev (Ev.CY (m := ((i + j) / 2)) tC.1 tC.2.1 tC.2.2 Y (zk (by omega))) <| aR Y <| dn <| rg <| mv Y <| mv Y <| mv Y ?_
  obtain ⟨x1, hx1⟩ := get_some (xs := s) (i := ((i + j) / 2)) (by omega)
  refine ev (Ev.index (i := ((i + j) / 2)) Tryz.underlying22 eO Y Y Y (aC hx1) ((K1.a j3).some_ hx1)) <| ev (Ev.loadRow kU Y Y ((K1.a j3).dx hx1)) ?_
  refine mv Y <| WL.call Y Y Y Oa (Ob _ x1 target K1.ext trivial) Y ?_
  rintro _ w2 ⟨rfl, e2⟩
  have K2 := K1.grow e2
  refine ev (Ev.lss Y Y) <| dn ?_
  refine WP.aG Y (fun hc31 => ?_) (fun hc31 => ?_)
  ·
   replace hc31 := of_decide_eq_true hc31
   refine eP <| mv Y <| ev (Ev.add Y Y (eX.mk (by omega) (by omega))) <| aR Y <| eT <| aA.aS ?_
   exact aA.ag ⟨(((i + j) / 2) + 1), j, Y, Y, by omega, by first | exact hlo | exact fun a y ha hy => hm a _ y x1 (by omega) hy hx1 hc31, by first | exact hhi | exact fun a y ha hy hlt => hc31 (hm _ a x1 y (by omega) hx1 hy hlt), K2⟩ rfl (by omega)
  replace hc31 := of_decide_eq_false hc31
  refine eP <| mv Y <| aR Y <| eT <| aA.aS ?_
  exact aA.ag ⟨i, ((i + j) / 2), Y, Y, by omega, by first | exact hlo | exact fun a y ha hy => hm a _ y x1 (by omega) hy hx1 hc31, by first | exact hhi | exact fun a y ha hy hlt => hc31 (hm _ a x1 y (by omega) hx1 hy hlt), K2⟩ rfl (by omega)
 replace hc17 := of_decide_eq_false hc17
 refine WP.exit (aA.aF (aA.aF (aA.bS (aA.norm ?_))))
 refine rg <| mv Y <| mv Y <| mv Y <| ev (Ev.lss Y Y) <| mv Y ?_
 refine WL.oI 9 48 (hits (fun y => f y target) s) ?_ ?_
 ·
  cases UK : decide (((i : Nat) : Int) < ((s.length : Nat) : Int)) with
  | true =>
   have aej := of_decide_eq_true UK
   refine WL.bF Y (Ev.move Y) Y <| WL.bF Y (Ev.move Y) Y <| WL.bF Y (Ev.move Y) Y ?_
   obtain ⟨x2, hx2⟩ := get_some (xs := s) (i := i) (by omega)
   refine WL.bF Y (Ev.index (i := i) Tryz.underlying22 eO Y Y Y (aC hx2) ((K1.a j3).some_ hx2)) Y <| WL.bF Y (Ev.loadRow kU Y Y ((K1.a j3).dx hx2)) Y ?_
   refine WL.bF Y (Ev.move Y) Y <| WL.jd Y Y Y Y Oa (Ob _ x2 target K1.ext trivial) Y ?_
   rintro _ w3 ⟨rfl, e3⟩
   have K3 := K1.grow e3
   refine WL.bF Y (Ev.eql Y Y) Y <| ev (Ev.bq Y Y) <| WL.re (t := 48) (u := .bool (decide (f x2 target = 0))) (v := .bool (hits (fun y => f y target) s)) Y (congrArg Value.bool (by have hl := wo (g := fun y => f y target) (s := s) (i := i) (by omega) hlo (fun a y ha => hhi a y (by omega)); unfold hits; rw [hl, hx2])) ?_
   exact WL.iY Y e3
  | false =>
   refine WL.pass Y Y Y <| WL.pass Y Y Y <| WL.pass Y Y Y <| WL.pass Y Y Y <| WL.pass Y Y Y <| WL.pass Y Y Y <| WL.pass Y Y Y <| WL.pass Y Y Y <| ev (Ev.bn Y Y) <| WL.re (t := 48) (u := .bool false) (v := .bool (hits (fun y => f y target) s)) Y (congrArg Value.bool (by have hl := wo (g := fun y => f y target) (s := s) (i := i) (by omega) hlo (fun a y ha => hhi a y (by omega)); unfold hits; rw [hl, List.getElem?_eq_none (by have := of_decide_eq_false UK; omega)])) ?_
   exact WL.iY Y (Ext.refl _)
 intro w4 e4
 have K4 := K1.grow e4
 refine aR Y <| aR Y <| dn ?_
 refine WP.ret (aA.aD Y Y Y ?_)
 have hq1 : (i : Nat) = (low (fun (y : ANode) => f y target) s) := by exact (wo (g := fun y => f y target) (by omega) hlo (fun a y ha => hhi a y (by omega))).symm
 have hq2 : (hits (fun y => f y target) s : Bool) = (hits (fun (y : ANode) => f y target) s) := by rfl
 exact ⟨by rw [hq2, ← hq1] <;> rfl, K4⟩
theorem Oh {S0 : Nat → Prop} (w : World) (n : ANode) (id : Int) :
    bY Tryz.prog 121 #[.agg #[.int .i64 n.ID, .int .i64 n.dA, .int .i64 n.fI, .int .i64 n.dz], .int .i64 id] w fun v w' => v = .int .i64 (dP n.ID id) ∧ Hp w S0 w' [] := by
 refine WP.enter Tryz.func121 Y Tryz.ntmps121 Y ?_
 have H0 := Hp.init w S0
 refine rg ?_
 refine bx Y Y H0 fun g1 w1 K1 => ?_
 refine aR Y <| dn <| rg <| ev (Ev.field (q := ⟨g1, 0, none⟩) dV Y Y) <| ev (Ev.aj bf Y (K1.x s0) Y) <| mv Y ?_
 refine C0 K1 Y Y Y qD (jJ (S0 := Any) _ n.ID id) fun w2 K2 => ?_
 refine aR Y <| dn ?_
 refine WP.ret (aA.aD Y Y Y ?_)
 exact ⟨Y, (K2.rm s0)⟩
theorem RP {S0 : Nat → Prop} (w : World) {d9 : an3} {eu : Nat} {l : List ANode} (dN : Sl tNode S0 w d9 eu l) (id : Int) (hu : Up ANode.ID l) (hn : l.length ≤ 1000000) :
    bY Tryz.prog 73 #[.slice d9 l.length eu, .int .i64 id] w fun v w' => v = .tuple #[.int .i64 ((low (fun (y : ANode) => dP y.ID id) l : Nat) : Int), .bool (hits (fun (y : ANode) => dP y.ID id) l)] ∧ Hp w S0 w' [] := by
 refine WP.enter Tryz.func73 Y Tryz.ntmps73 Y ?_
 have H0 := Hp.init w S0
 have iJ := dN.aN
 refine rg <| aR Y <| aR Y <| dn <| rg <| mv Y <| mv Y ?_
 refine C0 H0 Y Y Y abk (DY _ (H0.a dN).any id (Az := []) abj (fun (x : ANode) (t : Int) => dP x.ID t) (fun w' x t e hm => (Oh (S0 := Any) w' x t).mono (by rintro _ _ ⟨rfl, hq2⟩; exact ⟨rfl, hq2.ext⟩)) (hu.mono id) (by omega)) fun w1 K1 => ?_
 refine xt Y Y <| xt Y Y <| aR Y <| aR Y <| dn ?_
 refine WP.ret (aA.aD Y Y Y ?_)
 exact ⟨Y, K1⟩
theorem tL {S0 : Nat → Prop} (w : World) {d9 : an3} {eu : Nat} {l : List ANode} (dN : Sl tNode S0 w d9 eu l) (id : Int) (hn : l.length ≤ 100000) :
    bY Tryz.prog 29 #[.slice d9 l.length eu, .int .i64 id] w fun v w' => v = .tuple #[.agg #[.int .i64 ((bL l id).ID), .int .i64 ((bL l id).dA), .int .i64 ((bL l id).fI), .int .i64 ((bL l id).dz)], .bool (bZ l id)] ∧ Hp w S0 w' [] := by
 refine WP.enter Tryz.func29 Y Tryz.ntmps29 Y ?_
 have H0 := Hp.init w S0
 have iJ := dN.aN
 have hf := xI l
 have hlow := Ud (fun (y : ANode) => dP y.ID id) (dD l)
 refine rg ?_
 refine al iM Y H0 fun g1 w1 K1 => ?_
 refine aR Y <| dn <| rg <| mv Y <| WL.call Y Y Y aek (UW _ (K1.a dN).any (by omega)) Y ?_
 rintro _ w2 ⟨lD, lF, rfl, h2⟩
 have K2 := K1.f1 h2
 have DN := (K2.o s0).aN
 refine aR Y <| dn <| rg <| mv Y <| mv Y ?_
 refine C0 K2 Y Y Y ael (RP _ (K2.o s0) id (wM l) (by omega)) fun w3 K3 => ?_
 refine mv Y <| xt Y Y <| xt Y Y <| aR Y <| aR Y <| dn <| WP.seq <| rg <| mv Y <| ev (Ev.not Y) <| dn ?_
 refine WP.aG Y (fun hc17 => ?_) (fun hc17 => ?_)
 ·
  try simp only [an4, an5, an6, an7, an8, an9, aoa, aob] at hc17
  refine rg <| ev (Ev.build (vs := []) (cs := [.int .i64 0, .int .i64 0, .int .i64 0, .int .i64 0]) Y (by apply UR)) ?_
  refine iW Y Y Y eO K3 s1 Y Y fun w4 K4 => ?_
  refine aR Y <| dn ?_
  refine WP.ret (aA.aP (aA.oG Y ⟨_, _, Y, ⟨_, Y, eH (cs := [.int .i64 0, .int .i64 0, .int .i64 0, .int .i64 0]) kU Y (K4.x s0)⟩, ⟨_, _, Y, Y, Y⟩⟩ ?_))
  have hq1 : ((⟨0, 0, 0, 0⟩ : ANode) : ANode) = (bL l id) := by exact (GN hc17).symm
  have hq2 : (0 : Int) = (bL l id).ID := by rw [← hq1]
  have hq3 : (0 : Int) = (bL l id).dA := by rw [← hq1]
  have hq4 : (0 : Int) = (bL l id).fI := by rw [← hq1]
  have kP : (0 : Int) = (bL l id).dz := by rw [← hq1]
  have ny : (false : Bool) = (bZ l id) := by unfold bZ; rw [hc17]
  exact ⟨by rw [← hq2, ← hq3, ← hq4, ← kP, ← ny] <;> rfl, K4.z⟩
 try simp only [an4, an5, an6, an7, an8, an9, aoa, aob] at hc17
 have hc17 : hits (fun (y : ANode) => dP y.ID id) (dD l) = true := by simpa using hc17
 obtain ⟨xb, hxb, hkb⟩ := pV (key := ANode.ID) hc17
 have abd := aC hxb
 refine WP.skip (aA.norm ?_)
 refine rg <| mv Y <| mv Y ?_
 obtain ⟨x1, hx1⟩ := get_some (xs := dD l) (i := low (fun (y : ANode) => dP y.ID id) (dD l)) (by omega)
 refine ev (Ev.index (i := low (fun (y : ANode) => dP y.ID id) (dD l)) Tryz.underlying22 eO Y Y Y (aC hx1) ((K3.o s0).some_ hx1)) <| ev (Ev.loadRow kU Y Y ((K3.o s0).dx hx1)) ?_
 refine iW Y Y Y eO K3 s1 Y Y fun w5 K5 => ?_
 refine aR Y <| dn ?_
 refine WP.ret (aA.oG Y ⟨_, _, Y, ⟨_, Y, eH (cs := [.int .i64 x1.ID, .int .i64 x1.dA, .int .i64 x1.fI, .int .i64 x1.dz]) kU Y (K5.x s0)⟩, ⟨_, _, Y, Y, Y⟩⟩ ?_)
 have kT : (x1 : ANode) = (bL l id) := by exact (uG hc17 hx1).symm
 have hq8 : (x1.ID : Int) = (bL l id).ID := by rw [← kT]
 have uj : (x1.dA : Int) = (bL l id).dA := by rw [← kT]
 have jK : (x1.fI : Int) = (bL l id).fI := by rw [← kT]
 have hq11 : (x1.dz : Int) = (bL l id).dz := by rw [← kT]
 have hq12 : (true : Bool) = (bZ l id) := by unfold bZ; rw [hc17]
 exact ⟨by rw [hq8, uj, jK, hq11, ← hq12] <;> rfl, K5.z⟩
end Go.Proofs.YtjcklpooaaaglaaGreat
set_option maxRecDepth 4000
set_option linter.all false
namespace Go.Proofs.YtjcklpooaaaglaaGreat
open Go.RowKit
structure bP where
  Node : Int
  N : Int
  deriving DecidableEq
def bP.enc (x : bP) : List Value := [.int .i64 x.Node, .int .i64 x.N]
theorem bP.iB (x : bP) : ∀ u ∈ x.enc, u.oneCell' = true := by
  intro u hu
  simp only [bP.enc, List.mem_cons, List.not_mem_nil, or_false] at hu
  rcases hu with rfl | rfl <;> rfl
def fO : Ty bP := Ty.flat 2 bP.enc (by decide) (fun _ => rfl) bP.iB
instance : Flat fO := ⟨fun h => h⟩
structure AOrder where
  Kind : Int
  aB : Int
  ay : Int
  Sum : Int
  dw : Int
  To : Int
  dQ : Int
  deriving DecidableEq
def AOrder.enc (x : AOrder) : List Value := [.int .i64 x.Kind, .int .i64 x.aB, .int .i64 x.ay, .int .u32 x.Sum, .int .i64 x.dw, .int .i64 x.To, .int .i64 x.dQ]
theorem AOrder.iB (x : AOrder) : ∀ u ∈ x.enc, u.oneCell' = true := by
  intro u hu
  simp only [AOrder.enc, List.mem_cons, List.not_mem_nil, or_false] at hu
  rcases hu with rfl | rfl | rfl | rfl | rfl | rfl | rfl <;> rfl
def AOrder.wf (x : AOrder) : Prop := InI64 x.Kind ∧ InI64 x.aB ∧ InI64 x.ay ∧ TW x.Sum ∧ InI64 x.dw ∧ InI64 x.To ∧ InI64 x.dQ
def tOrder : Ty AOrder := Ty.flat 7 AOrder.enc (by decide) (fun _ => rfl) AOrder.iB
instance : Flat tOrder := ⟨fun h => h⟩
def bQ (cs : List AChunk) (id : Int) : Nat := (cs.filter fun (c : AChunk) => c.av.contains id).length
def iU (cs : List AChunk) (l : List ANode) : List bP := if sF l = true then l.map fun (n : ANode) => ⟨n.ID, (bQ cs n.ID : Int)⟩ else []
def uI (ah : List Int) (n : ANode) : Bool := !decide (n.dz = 0) || !ah.contains n.ID
def aU (l : List ANode) (ah : List Int) : List ANode := if sF l = true then l.filter fun (n : ANode) => !uI ah n else []
def fJ (aI : List bP) (id : Int) : Int := match aI.find? (fun (x : bP) => decide (x.Node = id)) with | some x => x.N | none => 0
theorem abl {aI : List bP} {id : Int} (h : idxOf (fun (x : bP) => decide (x.Node = id)) aI < 0) : fJ aI id = 0 := by
  rcases oK (fun (x : bP) => decide (x.Node = id)) aI with ⟨_, h2⟩ | ⟨k, x, h1, _, _, _⟩
  · unfold fJ; rw [List.find?_eq_none.2 (fun x hx => by simp [h2 x hx])]
  · omega
theorem YI {aI : List bP} {id : Int} {k : Nat} {x : bP} (h : idxOf (fun (x : bP) => decide (x.Node = id)) aI = (k : Int)) (hx : aI[k]? = some x) : fJ aI id = x.N := by
  rcases oK (fun (x : bP) => decide (x.Node = id)) aI with ⟨h1, _⟩ | ⟨k', x', h1, h2, h3, h4⟩
  · omega
  · have : k = k' := by omega
    subst this
    rw [hx] at h2; cases h2
    have hs : aI = aI.take k ++ x :: aI.drop (k + 1) := by
      conv => lhs; rw [← List.take_append_drop k aI]
      rw [List.drop_eq_getElem_cons (aC hx), (List.getElem?_eq_some_iff.1 hx).2]
    unfold fJ
    rw [hs, List.find?_append, List.find?_eq_none.2 (fun y hy => by simp [h4 y hy])]
    simp only [Option.none_or, List.find?_cons, h3]
def bT (cs : List AChunk) (l : List ANode) (ah : List Int) : List bP := iU cs (aU l ah)
theorem j5 : Size Tryz.prog 173 2 := fun _ => by kernel_rfl
theorem abm : NT Tryz.prog 173 2 := ⟨fun _ => by kernel_rfl, j5⟩
theorem KW : dL Tryz.prog 173 0 0 := fun _ _ => by kernel_rfl
theorem abn : aM Tryz.prog 172 := fun _ _ => by kernel_rfl
theorem abo : aM Tryz.prog 171 := fun _ _ => by kernel_rfl
theorem KX : dL Tryz.prog 173 1 1 := fun _ _ => by kernel_rfl
theorem abp : aM Tryz.prog 168 := fun _ _ => by kernel_rfl
theorem p9 (a0 : Int) (a1 : Int) : Tryz.prog.built 173 [(0, .int .i64 a0), (1, .int .i64 a1)] = some #[.int .i64 a0, .int .i64 a1] := by kernel_rfl
theorem rC (a0 : Int) (a1 : Int) : ∀ w, (Instr.buildSlice 130 1 (List.toArray [(0, .agg #[.int .i64 a0, .int .i64 a1])])).run Tryz.prog w = .ok (.slice (some ⟨w.heap.size, 0, none⟩) 1 1) (w.alloc (.cells (List.toArray [.int .i64 a0, .int .i64 a1]) 173)) := fun _ => by kernel_rfl
theorem I5 : je Tryz.prog 173 2 16 := by
  obtain ⟨i, h1, h2, h3, h4⟩ := info_parts (show (Tryz.prog.info? 173).map (fun i => (i.zero, i.size, i.bytes)) = some (some (.agg #[.int .i64 0, .int .i64 0]), 2, 16) by kernel_rfl)
  exact ⟨i, _, h1, h2, h3, h4, Y⟩
theorem abq : aM Tryz.prog 186 := fun _ _ => by kernel_rfl
theorem aem : qC Tryz.prog 63 4 32 := by
  obtain ⟨i, h1, h2, h3, h4⟩ := info_parts (show (Tryz.prog.info? 63).map (fun i => (i.zero, i.size, i.bytes)) = some (some (.agg #[.int .i64 0, .int .i64 0, .int .i64 0, .int .i64 0]), 4, 32) by kernel_rfl)
  exact ⟨i, _, h1, h2, h3, h4, Y, fun v hv => List.all_eq_true.1 (show (Value.cells (.agg #[.int .i64 0, .int .i64 0, .int .i64 0, .int .i64 0])).toList.all (fun v => v.oneCell') = true from Y) v hv⟩
theorem abr : aM Tryz.prog 175 := fun _ _ => by kernel_rfl
theorem abt : aM Tryz.prog 174 := fun _ _ => by kernel_rfl
theorem UY : aM Tryz.prog 134 := fun _ _ => by kernel_rfl
theorem DZ {α : Type} {p : α → Bool} {xs : List α} (h : idxOf p xs < 0) : (xs.filter fun x => !p x) = xs := by
  rcases oK p xs with ⟨_, h2⟩ | ⟨k, x, h1, _⟩
  · exact List.filter_eq_self.2 (fun x hx => by simp [h2 x hx])
  · omega
theorem D5 {α : Type} {p : α → Bool} {xs : List α} {k : Nat} (h : idxOf p xs = (k : Int)) : xs.take k = (xs.take (k + 1)).filter (fun x => !p x) ∧ k < xs.length := by
  rcases oK p xs with ⟨h1, _⟩ | ⟨k', x, h1, h2, h3, h4⟩
  · omega
  · have : k = k' := by omega
    subst this
    refine ⟨?_, aC h2⟩
    rw [dK h2, List.filter_append, List.filter_eq_self.2 (fun x hx => by simp [h4 x hx])]
    simp [h3]
theorem AY {S0 : Nat → Prop} (w : World) {qE : an3} {qF : Nat} {s : List bP} (j3 : Sl fO S0 w qE qF s) {Aw : FuncId} {Az : List Value} (Oa : aM Tryz.prog Aw) (f : bP → Bool) (Ob : ∀ (w' : World) (x : bP), Ext w w' → x ∈ s → bY Tryz.prog Aw (([.agg #[.int .i64 x.Node, .int .i64 x.N]] : List Value) ++ Az).toArray w' fun v w'' => v = .bool (f x) ∧ Ext w' w'') :
    bY Tryz.prog 171 #[.slice qE s.length qF, .func (.func Aw) #[] Az.toArray] w fun v w' => v = .int .i64 (idxOf f s) ∧ Hp w S0 w' [] := by
 refine WP.enter Tryz.func171 Y Tryz.ntmps171 Y ?_
 have H0 := Hp.init w S0
 have yH := j3.aN
 refine rg <| aR Y <| dn <| WP.seq <| rg <| mv Y <| ev (Ev.len Tryz.underlying130 Y) <| mv Y <| dn <| WP.block <| Lp H0 (fun l0 rk mJ lJ wJ => ∃ (k : Nat), lJ = (8, .int .i64 ((k : Nat) : Int)) :: l0 ∧ mJ = s.length - k ∧ k ≤ s.length ∧ (∀ y ∈ s.take k, f y = false) ∧ Hp w S0 wJ rk) ⟨0, Y, Y, Nat.zero_le _, by simp, H0⟩ rfl ?_
 rintro _ _ w1 ⟨k, rfl, rfl, hk, hno, K1⟩
 refine rg <| ev (Ev.lss Y Y) <| dn ?_
 refine WP.cond Y (fun jE => ?_) (fun jE => ?_)
 ·
  replace jE := of_decide_eq_true jE
  refine WP.skip (aA.norm ?_)
  refine WP.seq <| WP.block <| rg <| mv Y <| aR Y <| dn <| rg <| mv Y <| mv Y <| mv Y ?_
  obtain ⟨x1, hx1⟩ := get_some (xs := s) (i := k) (by omega)
  refine ev (Ev.index (i := k) Tryz.underlying130 j5 Y Y Y (aC hx1) ((K1.a j3).some_ hx1)) <| ev (Ev.loadRow abm Y Y ((K1.a j3).dx hx1)) ?_
  refine WL.call Y Y Y Oa (Ob _ x1 K1.ext (bV hx1)) Y ?_
  rintro _ w2 ⟨rfl, e2⟩
  have K2 := K1.grow e2
  refine dn ?_
  refine WP.aG Y (fun hc16 => ?_) (fun hc16 => ?_)
  ·
   refine rg <| mv Y <| aR Y <| dn ?_
   refine WP.ret (aA.bW (aA.aP (aA.aP (aA.bW (aA.aP (aA.aD Y Y Y ?_))))))
   have hq1 : (((k : Nat) : Int) : Int) = (idxOf f s) := by exact (jU hno hx1 hc16).symm
   exact ⟨by rw [hq1] <;> rfl, K2⟩
  refine WP.skip (aA.aS (aA.norm ?_))
  refine eP <| ev (Ev.add Y Y (eX.mk (by omega) (by omega))) <| mv Y <| eT ?_
  exact aA.ag ⟨(k + 1), Y, Y, by omega, by exact gP (q := fun y => f y = false) hno hx1 hc16, K2⟩ rfl (by omega)
 replace jE := of_decide_eq_false jE
 refine WP.exit (aA.aF (aA.aF (aA.bS (aA.norm ?_))))
 refine rg <| aR Y <| dn ?_
 refine WP.ret (aA.aD Y Y Y ?_)
 have hq2 : ((-1) : Int) = (idxOf f s) := by exact (kI (jf hno (by omega))).symm
 exact ⟨by rw [← hq2] <;> rfl, K1⟩
theorem RQ {S0 : Nat → Prop} (w : World) (x : bP) {UZ : Nat} (bO : Int) (abu : Bx w UZ 3 [.int .i64 bO]) :
    bY Tryz.prog 172 #[.agg #[.int .i64 x.Node, .int .i64 x.N], .pointer (some ⟨UZ, 0, none⟩)] w fun v w' => v = .bool (decide (x.Node = bO)) ∧ Hp w S0 w' [] := by
 refine WP.enter Tryz.func172 Y Tryz.ntmps172 Y ?_
 have H0 := Hp.init w S0
 refine rg ?_
 refine bx Y Y H0 fun g1 w1 K1 => ?_
 refine aR Y <| dn <| rg <| ev (Ev.field (q := ⟨g1, 0, none⟩) KW Y Y) <| ev (Ev.aj bf Y (K1.x s0) Y) <| ev (Ev.aj bf Y (abu.ext K1.ext) Y) <| ev (Ev.eql Y Y) <| aR Y <| dn ?_
 refine WP.ret (aA.aD Y Y Y ?_)
 exact ⟨Y, (K1.rm s0)⟩
theorem lQ {S0 : Nat → Prop} (w : World) {d9 : an3} {eu : Nat} {l : List bP} (dN : Sl fO S0 w d9 eu l) (bO : Int) :
    bY Tryz.prog 136 #[.slice d9 l.length eu, .int .i64 bO] w fun v w' => v = .int .i64 (fJ l bO) ∧ Hp w S0 w' [] := by
 refine WP.enter Tryz.func136 Y Tryz.ntmps136 Y ?_
 have H0 := Hp.init w S0
 have iJ := dN.aN
 have hge := vY (p := fun (x : bP) => decide (x.Node = bO)) l
 have hlt := vZ (p := fun (x : bP) => decide (x.Node = bO)) l
 refine rg ?_
 refine bx Y Y H0 fun g1 w1 K1 => ?_
 refine aR Y <| dn <| rg <| mv Y <| ev (Ev.func Y) ?_
 refine C0 K1 Y Y Y abo (AY _ (K1.a dN).any (Az := [.pointer (some ⟨g1, 0, none⟩)]) abn (fun (x : bP) => decide (x.Node = bO)) (fun w' x e hm => (RQ (S0 := Any) w' x bO ((K1.x s0).ext e)).mono (by rintro _ _ ⟨rfl, hq2⟩; exact ⟨rfl, hq2.ext⟩))) fun w2 K2 => ?_
 refine aR Y <| dn <| WP.seq <| rg <| mv Y <| ev (Ev.lss Y Y) <| dn ?_
 refine WP.aG Y (fun iR => ?_) (fun iR => ?_)
 ·
  replace iR := of_decide_eq_true iR
  refine rg <| aR Y <| dn ?_
  refine WP.ret (aA.aP (aA.aD Y Y Y ?_))
  have hq1 : (0 : Int) = (fJ l bO) := by exact (abl (by omega)).symm
  exact ⟨by rw [← hq1] <;> rfl, (K2.rm s0)⟩
 replace iR := of_decide_eq_false iR
 refine WP.skip (aA.norm ?_)
 obtain ⟨k0, hk0, hkl⟩ : ∃ k0 : Nat, idxOf (fun (x : bP) => decide (x.Node = bO)) l = (k0 : Int) ∧ k0 < l.length := ⟨(idxOf (fun (x : bP) => decide (x.Node = bO)) l).toNat, by omega, by omega⟩
 refine WP.re (t := 5) Y (congrArg (Value.int .i64) hk0) <| rg <| mv Y <| mv Y ?_
 obtain ⟨x1, hx1⟩ := get_some (xs := l) (i := k0) (by omega)
 refine ev (Ev.index (i := k0) Tryz.underlying130 j5 Y Y Y (aC hx1) ((K2.a dN).some_ hx1)) <| ev (Ev.field KX Y (bJ _ _ _)) <| ev (Ev.aZ bf Y ((K2.a dN).aX (j := 1) hx1 Y)) ?_
 refine aR Y <| dn ?_
 refine WP.ret (aA.aD Y Y Y ?_)
 have hq2 : (x1.N : Int) = (fJ l bO) := by exact (YI hk0 hx1).symm
 exact ⟨by rw [hq2] <;> rfl, (K2.rm s0)⟩
theorem U0 {S0 : Nat → Prop} (w : World) {eB : an3} {eD : Nat} {au : List AChunk} (eF : Sl tChunk S0 w eB eD au) (id : Int) :
    bY Tryz.prog 168 #[.slice eB au.length eD, .int .i64 id] w fun v w' => v = .int .i64 ((bQ au id : Nat) : Int) ∧ Hp w S0 w' [] := by
 refine WP.enter Tryz.func168 Y Tryz.ntmps168 Y ?_
 have H0 := Hp.init w S0
 have oL := eF.aN
 have hq := fun k => List.length_filter_le (fun (c : AChunk) => c.av.contains id) (au.take k)
 simp only [List.length_take] at hq
 refine rg <| aR Y <| dn <| rg <| aR Y <| dn <| WP.seq <| rg <| mv Y <| ev (Ev.len Tryz.underlying23 Y) <| mv Y <| dn <| WP.block ?_
 have hq1 : (0 : Int) = ((((au.take 0).filter fun (c : AChunk) => c.av.contains id).length : Nat) : Int) := by rfl
 refine WP.re (t := 5) Y (congrArg (Value.int .i64) hq1) <| Lp H0 (fun l0 rk mJ lJ wJ => ∃ (k : Nat), lJ = (5, .int .i64 ((((au.take k).filter fun (c : AChunk) => c.av.contains id).length : Nat) : Int)) :: (10, .int .i64 ((k : Nat) : Int)) :: l0 ∧ mJ = au.length - k ∧ k ≤ au.length ∧ Hp w S0 wJ rk) ⟨0, Y, Y, Nat.zero_le _, H0⟩ Y ?_
 rintro _ _ w1 ⟨k, rfl, rfl, hk, K1⟩
 refine rg <| ev (Ev.lss Y Y) <| dn ?_
 refine WP.cond Y (fun fK => ?_) (fun fK => ?_)
 ·
  replace fK := of_decide_eq_true fK
  refine WP.skip (aA.norm ?_)
  refine WP.seq <| WP.block <| rg ?_
  obtain ⟨x1, hx1⟩ := get_some (xs := au) (i := k) (by omega)
  refine ev (Ev.index (i := k) Tryz.underlying23 gu Y Y Y (aC hx1) ((K1.a eF).some_ hx1)) ?_
  obtain ⟨B1, d1, kL, hi1⟩ := AChunk.op (eF.row hx1)
  refine ev (Ev.loadRow (cs := [.int .i64 x1.ID, .int .i64 x1.ay, .int .u32 x1.Sum, .slice B1 x1.av.length d1]) gQ Y Y (oJ (fun j u hu => K1.ext.cell (kL j u hu)))) ?_
  refine al iI Y K1 fun g1 w2 K2 => ?_
  refine iW Y Y Y gu K2 s0 Y Y fun w3 K3 => ?_
  refine dn ?_
  have hqk := hq k
  refine rg <| ev (Ev.field (q := ⟨g1, 3, none⟩) fT Y Y) <| ev (Ev.aj gK Y (K3.x s0) Y) <| mv Y ?_
  refine C0 K3 Y Y Y yx (iq _ (K3.a hi1).any id) fun w4 K4 => ?_
  refine dn ?_
  refine WP.aG Y (fun hc17 => ?_) (fun hc17 => ?_)
  ·
   refine eP <| mv Y <| ev (Ev.add Y Y (eX.mk (by omega) (by omega))) <| aR Y <| eT <| aA.aS (aA.norm ?_)
   refine eP <| ev (Ev.add Y Y (eX.mk (by omega) (by omega))) <| mv Y <| eT ?_
   have hq2 : (((((au.take k).filter fun (c : AChunk) => c.av.contains id).length + 1 : Nat) : Int) : Int) = ((((au.take (k + 1)).filter fun (c : AChunk) => c.av.contains id).length : Nat) : Int) := by rw [fQ hx1]; first | (rw [if_pos hc17]; simp; done) | (rw [if_neg (by rw [hc17]; decide)]; simp)
   refine aA.re (t := 5) Y (congrArg (Value.int .i64) hq2) ?_
   exact aA.ag ⟨(k + 1), Y, Y, by omega, (K4.rm s0)⟩ rfl (by omega)
  refine WP.skip (aA.aS (aA.norm ?_))
  refine eP <| ev (Ev.add Y Y (eX.mk (by omega) (by omega))) <| mv Y <| eT ?_
  have hq3 : (((((au.take k).filter fun (c : AChunk) => c.av.contains id).length : Nat) : Int) : Int) = ((((au.take (k + 1)).filter fun (c : AChunk) => c.av.contains id).length : Nat) : Int) := by rw [fQ hx1]; first | (rw [if_pos hc17]; simp; done) | (rw [if_neg (by rw [hc17]; decide)]; simp)
  refine aA.re (t := 5) Y (congrArg (Value.int .i64) hq3) ?_
  exact aA.ag ⟨(k + 1), Y, Y, by omega, (K4.rm s0)⟩ rfl (by omega)
 replace fK := of_decide_eq_false fK
 refine WP.exit (aA.aF (aA.aF (aA.bS (aA.norm ?_))))
 refine rg <| mv Y <| aR Y <| dn ?_
 refine WP.ret (aA.aD Y Y Y ?_)
 have hq4 : (((au.take k).filter fun (c : AChunk) => c.av.contains id).length : Nat) = (bQ au id) := by rw [List.take_of_length_le (by omega)]; rfl
 exact ⟨by rw [hq4] <;> rfl, K1⟩
theorem GR {S0 : Nat → Prop} (w : World) {eB : an3} {eD : Nat} {au : List AChunk} (eF : Sl tChunk S0 w eB eD au) {d9 : an3} {eu : Nat} {l : List ANode} (dN : Sl tNode S0 w d9 eu l) (hn : l.length ≤ 100000) :
    bY Tryz.prog 134 #[.slice eB au.length eD, .slice d9 l.length eu] w fun v w' => ∃ (A0 : an3) (c0 : Nat), v = .slice A0 ((iU au l).length) c0 ∧ Hp w S0 w' [aQ fO 173 A0 c0 (iU au l)] := by
 refine WP.enter Tryz.func134 Y Tryz.ntmps134 Y ?_
 have H0 := Hp.init w S0
 have oL := eF.aN
 have iJ := dN.aN
 refine rg <| aR Y <| dn <| WP.seq <| rg <| mv Y ?_
 refine C0 H0 Y Y Y Og (I4 _ (H0.a dN).any) fun w1 K1 => ?_
 refine ev (Ev.not Y) <| dn ?_
 refine WP.aG Y (fun iR => ?_) (fun iR => ?_)
 ·
  try simp only [an4, an5, an6, an7, an8, an9, aoa, aob] at iR
  refine rg <| aR Y <| dn ?_
  refine WP.ret (aA.aP (aA.aD Y Y Y ?_))
  have H1 := K1.nil fO 173
  have hq1 : (([] : List bP) : List bP) = (iU au l) := by unfold iU; rw [if_neg (by rw [iR]; decide)]
  have H2 := (hq1 ▸ H1 : Hp w S0 w1 (aQ fO 173 none 0 (iU au l) :: []))
  exact ⟨none, 0, by rw [← hq1] <;> rfl, H2⟩
 try simp only [an4, an5, an6, an7, an8, an9, aoa, aob] at iR
 refine WP.skip (aA.norm ?_)
 refine rg <| aR Y <| dn <| WP.seq <| rg <| mv Y <| ev (Ev.len Tryz.underlying22 Y) <| mv Y <| dn <| WP.block ?_
 have H3 := K1.nil fO 173
 have hq2 : (([] : List bP) : List bP) = ((l.take 0).map fun (n : ANode) => (⟨n.ID, (bQ au n.ID : Int)⟩ : bP)) := by rfl
 refine WP.re (t := 5) Y (congrArg (fun z => Value.slice none (List.length z) 0) hq2) ?_
 have H4 := H3.nil fO 173
 have H5 := (hq2 ▸ H4 : Hp w S0 w1 (aQ fO 173 none 0 ((l.take 0).map fun (n : ANode) => (⟨n.ID, (bQ au n.ID : Int)⟩ : bP)) :: [aQ fO 173 none 0 []]))
 refine WP.lp (fun mJ lJ wJ => ∃ (k : Nat) (A5 : an3) (c5 : Nat), lJ = [(0, .slice eB au.length eD), (5, .slice A5 (((l.take k).map fun (n : ANode) => (⟨n.ID, (bQ au n.ID : Int)⟩ : bP)).length) c5), (11, .slice d9 l.length eu), (12, .int .i64 ((l.length : Nat) : Int)), (13, .int .i64 ((k : Nat) : Int))] ∧ mJ = l.length - k ∧ k ≤ l.length ∧ Hp w S0 wJ [aQ fO 173 A5 c5 ((l.take k).map fun (n : ANode) => (⟨n.ID, (bQ au n.ID : Int)⟩ : bP))]) ⟨0, none, 0, Y, Y, Nat.zero_le _, (H5.rm s1)⟩ Y ?_
 rintro _ _ w2 ⟨k, A5, c5, rfl, rfl, hk, K2⟩
 refine rg <| ev (Ev.lss Y Y) <| dn ?_
 refine WP.cond Y (fun fE => ?_) (fun fE => ?_)
 ·
  replace fE := of_decide_eq_true fE
  refine WP.skip (aA.norm ?_)
  refine WP.seq <| WP.block <| rg ?_
  obtain ⟨x1, hx1⟩ := get_some (xs := l) (i := k) (by omega)
  refine ev (Ev.index (i := k) Tryz.underlying22 eO Y Y Y (aC hx1) ((K2.a dN).some_ hx1)) <| ev (Ev.loadRow kU Y Y ((K2.a dN).dx hx1)) ?_
  refine al iM Y K2 fun g1 w3 K3 => ?_
  refine iW Y Y Y eO K3 s0 Y Y fun w4 K4 => ?_
  refine dn ?_
  refine Hf K4 (fun _ K => (K.rm s1)) (fun l0 rk lJ wJ => ∃ (jw : an3) (jy : Nat), lJ = (5, .slice jw ((((l.take k).map fun (n : ANode) => (⟨n.ID, (bQ au n.ID : Int)⟩ : bP)) ++ ([(⟨x1.ID, ((bQ au x1.ID : Nat) : Int)⟩ : bP)] : List bP)).length) jy) :: l0 ∧ Hp w S0 wJ (aQ fO 173 jw jy (((l.take k).map fun (n : ANode) => (⟨n.ID, (bQ au n.ID : Int)⟩ : bP)) ++ ([(⟨x1.ID, ((bQ au x1.ID : Nat) : Int)⟩ : bP)] : List bP)) :: rk)) (fun hns H6 => ?_) ?_
  ·
   have k1 := (H6.rm s1)
   refine Tm 0 1 hns Y Y k1 <| Tn 1 3 hns Y (fun _ _ => Ev.field (q := ⟨g1, 0, none⟩) dV Y Y) k1 <| Tn 2 7 hns Y (fun _ hK => Ev.aj bf Y (hK.x s0) Y) k1 ?_
   refine Tm 3 15 hns Y Y k1 <| Tn 4 31 hns Y (fun _ _ => Ev.field (q := ⟨g1, 0, none⟩) dV Y Y) k1 <| Tn 5 63 hns Y (fun _ hK => Ev.aj bf Y (hK.x s0) Y) k1 ?_
   refine O1 6 Y ?_
   refine C0 H6 Y Y Y abp (U0 _ (H6.a eF).any x1.ID) fun w5 K5 => ?_
   have k2 := (K5.rm s1)
   refine WH.next k2 <| Tn 7 255 hns Y (fun _ _ => Ev.build (vs := [(0, .int .i64 x1.ID), (1, .int .i64 ((bQ au x1.ID : Nat) : Int))]) (cs := [.int .i64 x1.ID, .int .i64 ((bQ au x1.ID : Nat) : Int)]) Y (by apply p9)) k2 ?_
   refine O1 8 Y ?_
   refine ni (τ := fO) (x := (⟨x1.ID, ((bQ au x1.ID : Nat) : Int)⟩ : bP)) Y (by intro _; apply rC) rfl K5 (fun _ _ => rfl) fun g2 w6 K6 => ?_
   have k3 := ((K6.rm s2).rm s0)
   refine WH.next k3 <| O1 9 Y ?_
   refine ap (ys := ([(⟨x1.ID, ((bQ au x1.ID : Nat) : Int)⟩ : bP)] : List bP)) K6 s2 Y Y (K6.o s0) Tryz.underlying130 I5 (by first | omega | (simp; omega) | (simp; done)) (by simp) rfl fun jg jh w7 K7 => ?_
   have k4 := ((K7.rm s1).rm s0)
   refine WH.next k4 <| Ta 10 2047 hns Y Y k4 ?_
   exact Dn ⟨jg, jh, Y, (K7.rm s1)⟩ Y
  rintro _ w8 ⟨jw, jy, rfl, K8⟩
  refine aA.aS (aA.norm ?_)
  refine eP <| ev (Ev.add Y Y (eX.mk (by omega) (by omega))) <| mv Y <| eT ?_
  have hq3 : ((((l.take k).map fun (n : ANode) => (⟨n.ID, (bQ au n.ID : Int)⟩ : bP)) ++ ([(⟨x1.ID, ((bQ au x1.ID : Nat) : Int)⟩ : bP)] : List bP)) : List bP) = ((l.take (k + 1)).map fun (n : ANode) => (⟨n.ID, (bQ au n.ID : Int)⟩ : bP)) := by rw [dK hx1, List.map_append]; rfl
  refine aA.re (t := 5) Y (congrArg (fun z => Value.slice jw (List.length z) jy) hq3) ?_
  rw [hq3] at K8
  exact aA.ag ⟨(k + 1), jw, jy, Y, Y, by omega, (K8.rm s1)⟩ rfl (by omega)
 replace fE := of_decide_eq_false fE
 refine WP.exit (aA.aF (aA.aF (aA.bS (aA.norm ?_))))
 refine rg <| mv Y <| aR Y <| dn ?_
 refine WP.ret (aA.aD Y Y Y ?_)
 have hq4 : (((l.take k).map fun (n : ANode) => (⟨n.ID, (bQ au n.ID : Int)⟩ : bP)) : List bP) = (iU au l) := by rw [List.take_of_length_le (by omega)]; unfold iU; rw [if_pos iR]
 rw [hq4] at K2
 exact ⟨A5, c5, by rw [hq4] <;> rfl, K2⟩
theorem YJ {S0 : Nat → Prop} (w : World) (n : ANode) {rD : Nat} {cZ : an3} {dh : Nat} {ah : List Int} (cu : Bx w rD 51 [.slice cZ ah.length dh]) (rE : Sl tInt S0 w cZ dh ah) :
    bY Tryz.prog 174 #[.agg #[.int .i64 n.ID, .int .i64 n.dA, .int .i64 n.fI, .int .i64 n.dz], .pointer (some ⟨rD, 0, none⟩)] w fun v w' => v = .bool (uI ah n) ∧ Hp w S0 w' [] := by
 refine WP.enter Tryz.func174 Y Tryz.ntmps174 Y ?_
 have H0 := Hp.init w S0
 have iy := rE.aN
 refine rg ?_
 refine bx Y Y H0 fun g1 w1 K1 => ?_
 refine aR Y <| dn <| rg <| ev (Ev.field (q := ⟨g1, 3, none⟩) nU Y Y) <| ev (Ev.aj bf Y (K1.x s0) Y) <| ev (Ev.neq Y Y) <| mv Y ?_
 refine WL.oI 6 13 ((!decide (n.dz = 0)) || (!(ah.contains n.ID))) ?_ ?_
 ·
  cases hb7 : (!decide (n.dz = 0)) with
  | true =>
   refine WL.pass Y Y Y <| WL.pass Y Y Y <| WL.pass Y Y Y <| WL.pass Y Y Y <| WL.pass Y Y Y <| ev (Ev.bq Y Y) ?_
   exact WL.iY Y (Ext.refl _)
  | false =>
   have abw := gD hb7
   refine WL.bF Y (Ev.aj gK Y (cu.ext K1.ext) Y) Y <| WL.bF Y (Ev.field (q := ⟨g1, 0, none⟩) dV Y Y) Y <| WL.bF Y (Ev.aj bf Y (K1.x s0) Y) Y ?_
   refine WL.jd Y Y Y Y yx (iq _ (K1.a rE).any n.ID) Y ?_
   rintro _ w2 ⟨rfl, h2⟩
   have K2 := K1.c0 h2
   refine WL.bF Y (Ev.not Y) Y <| ev (Ev.bn Y Y) ?_
   exact WL.iY Y h2.ext
 intro w3 e3
 have K3 := K1.grow e3
 refine aR Y <| dn ?_
 refine WP.ret (aA.aD Y Y Y ?_)
 have hq1 : (((!decide (n.dz = 0)) || (!(ah.contains n.ID))) : Bool) = (uI ah n) := by rfl
 exact ⟨by rw [hq1] <;> rfl, (K3.rm s0)⟩
theorem AZ {S0 : Nat → Prop} (w : World) {qE : an3} {qF : Nat} {s : List ANode} (j3 : Sl tNode S0 w qE qF s) {Aw : FuncId} {Az : List Value} (Oa : aM Tryz.prog Aw) (f : ANode → Bool) (Ob : ∀ (w' : World) (x : ANode), Ext w w' → x ∈ s → bY Tryz.prog Aw (([.agg #[.int .i64 x.ID, .int .i64 x.dA, .int .i64 x.fI, .int .i64 x.dz]] : List Value) ++ Az).toArray w' fun v w'' => v = .bool (f x) ∧ Ext w' w'') :
    bY Tryz.prog 186 #[.slice qE s.length qF, .func (.func Aw) #[] Az.toArray] w fun v w' => v = .int .i64 (idxOf f s) ∧ Hp w S0 w' [] := by
 refine WP.enter Tryz.func186 Y Tryz.ntmps186 Y ?_
 have H0 := Hp.init w S0
 have yH := j3.aN
 refine rg <| aR Y <| dn <| WP.seq <| rg <| mv Y <| ev (Ev.len Tryz.underlying22 Y) <| mv Y <| dn <| WP.block <| Lp H0 (fun l0 rk mJ lJ wJ => ∃ (k : Nat), lJ = (8, .int .i64 ((k : Nat) : Int)) :: l0 ∧ mJ = s.length - k ∧ k ≤ s.length ∧ (∀ y ∈ s.take k, f y = false) ∧ Hp w S0 wJ rk) ⟨0, Y, Y, Nat.zero_le _, by simp, H0⟩ rfl ?_
 rintro _ _ w1 ⟨k, rfl, rfl, hk, hno, K1⟩
 refine rg <| ev (Ev.lss Y Y) <| dn ?_
 refine WP.cond Y (fun jE => ?_) (fun jE => ?_)
 ·
  replace jE := of_decide_eq_true jE
  refine WP.skip (aA.norm ?_)
  refine WP.seq <| WP.block <| rg <| mv Y <| aR Y <| dn <| rg <| mv Y <| mv Y <| mv Y ?_
  obtain ⟨x1, hx1⟩ := get_some (xs := s) (i := k) (by omega)
  refine ev (Ev.index (i := k) Tryz.underlying22 eO Y Y Y (aC hx1) ((K1.a j3).some_ hx1)) <| ev (Ev.loadRow kU Y Y ((K1.a j3).dx hx1)) ?_
  refine WL.call Y Y Y Oa (Ob _ x1 K1.ext (bV hx1)) Y ?_
  rintro _ w2 ⟨rfl, e2⟩
  have K2 := K1.grow e2
  refine dn ?_
  refine WP.aG Y (fun hc16 => ?_) (fun hc16 => ?_)
  ·
   refine rg <| mv Y <| aR Y <| dn ?_
   refine WP.ret (aA.bW (aA.aP (aA.aP (aA.bW (aA.aP (aA.aD Y Y Y ?_))))))
   have hq1 : (((k : Nat) : Int) : Int) = (idxOf f s) := by exact (jU hno hx1 hc16).symm
   exact ⟨by rw [hq1] <;> rfl, K2⟩
  refine WP.skip (aA.aS (aA.norm ?_))
  refine eP <| ev (Ev.add Y Y (eX.mk (by omega) (by omega))) <| mv Y <| eT ?_
  exact aA.ag ⟨(k + 1), Y, Y, by omega, by exact gP (q := fun y => f y = false) hno hx1 hc16, K2⟩ rfl (by omega)
 replace jE := of_decide_eq_false jE
 refine WP.exit (aA.aF (aA.aF (aA.bS (aA.norm ?_))))
 refine rg <| aR Y <| dn ?_
 refine WP.ret (aA.aD Y Y Y ?_)
 have hq2 : ((-1) : Int) = (idxOf f s) := by exact (kI (jf hno (by omega))).symm
 exact ⟨by rw [← hq2] <;> rfl, K1⟩
theorem zq {b w : World} {S : Nat → Prop} {F : List jP} {A : an3} {c : Nat} {xs : List ANode} (H0 : Hp b S w (aQ tNode 63 A c xs :: F)) {fd : FuncId} {kd : List Value} (qd : aM Tryz.prog fd) (p : ANode → Bool)
    (hd : ∀ (w' : World) (ys : List ANode) (x : ANode), ys.length = xs.length → Hp b S w' (aQ tNode 63 A c ys :: F) → bY Tryz.prog fd (([.agg #[.int .i64 x.ID, .int .i64 x.dA, .int .i64 x.fI, .int .i64 x.dz]] : List Value) ++ kd).toArray w' fun v w'' => v = .bool (p x) ∧ Ext w' w'') (hn : xs.length ≤ 1000000) :
    bY Tryz.prog 175 #[.slice A xs.length c, .func (.func fd) #[] kd.toArray] w fun v w' => v = .slice A (xs.filter fun x => !p x).length c ∧ Hp b S w' (aQ tNode 63 A c (xs.filter fun x => !p x) :: F) := by
 refine WP.enter Tryz.func175 Y Tryz.ntmps175 Y ?_
 have ZH := (H0.o s0).aN
 have hcap0 := (H0.o s0).cap
 have hlt := vZ (p := p) xs
 have hge := vY (p := p) xs
 refine rg <| aR Y <| dn <| rg <| mv Y <| mv Y <| WL.call Y Y Y abq (AZ (S0 := Any) (Az := kd) w ((H0.o s0)) qd p (fun w' x ex _ => hd w' xs x Y (H0.grow ex))) Y ?_
 rintro _ w1 ⟨rfl, e1⟩
 have K1 := H0.grow e1.ext
 refine aR Y <| dn <| WP.seq <| rg <| mv Y <| ev (Ev.eql Y Y) <| dn ?_
 refine WP.aG Y (fun iL => ?_) (fun iL => ?_)
 ·
  replace iL := of_decide_eq_true iL
  refine rg <| mv Y <| aR Y <| dn ?_
  refine WP.ret (aA.aP (aA.aD Y Y Y ?_))
  have hall := DZ (p := p) (xs := xs) (by omega)
  exact ⟨by rw [hall]; rfl, by rw [hall]; exact K1⟩
 replace iL := of_decide_eq_false iL
 refine WP.skip (aA.norm ?_)
 refine WP.seq ?_
 obtain ⟨k0, hk0, hkl⟩ : ∃ k0 : Nat, idxOf p xs = (k0 : Int) ∧ k0 < xs.length := ⟨(idxOf p xs).toNat, by omega, by omega⟩
 have U1 := D5 hk0
 refine WP.re (t := 5) Y (congrArg (Value.int .i64) hk0) <| rg <| mv Y <| ev (Ev.add Y Y (eX.mk (by omega) (by omega))) <| aR Y <| dn <| WP.block <| Lp (K1.rm s0) (fun l0 rk mJ lJ wJ => ∃ (i j : Nat) (ys : List ANode), lJ = (0, .slice A ys.length c) :: (5, .int .i64 ((i : Nat) : Int)) :: (6, .int .i64 ((j : Nat) : Int)) :: l0 ∧ mJ = xs.length - j ∧ (ys.length = xs.length) ∧ (i < j ∧ j ≤ xs.length) ∧ (ys.take i = (xs.take j).filter fun x => !p x) ∧ (ys.drop j = xs.drop j) ∧ Hp b S wJ (aQ tNode 63 A c ys :: rk)) ⟨k0, (k0 + 1), xs, Y, Y, by rfl, by omega, by exact U1.1, by rfl, K1⟩ rfl ?_
 rintro _ _ w2 ⟨i, j, ys, rfl, rfl, hys, hij, htk, hdr, K2⟩
 refine WP.seq <| rg <| mv Y <| mv Y <| ev (Ev.len Tryz.underlying22 Y) <| ev (Ev.lss Y Y) <| dn ?_
 refine WP.aG Y (fun hc19 => ?_) (fun hc19 => ?_)
 ·
  replace hc19 := of_decide_eq_true hc19
  refine WP.skip (aA.norm ?_)
  refine WP.seq <| WP.block <| rg <| mv Y <| mv Y ?_
  obtain ⟨x1, hx1⟩ := get_some (xs := ys) (i := j) (by omega)
  refine ev (Ev.index (i := j) Tryz.underlying22 eO Y Y Y (aC hx1) ((K2.o s0).some_ hx1)) <| ev (Ev.loadRow kU Y Y ((K2.o s0).dx hx1)) ?_
  refine al iM Y K2 fun g1 w3 K3 => ?_
  refine iW Y Y Y eO K3 s0 Y Y fun w4 K4 => ?_
  refine dn <| rg <| mv Y <| ev (Ev.bX kU Y Y (K4.x s0)) <| WL.call Y Y Y qd (hd _ _ x1 (by first | exact hys | omega) (K4.rm s0)) rfl ?_
  rintro _ w5 ⟨rfl, e5⟩
  have K5 := K4.grow e5
  refine ev (Ev.not Y) <| dn ?_
  refine WP.aG Y (fun hc29 => ?_) (fun hc29 => ?_)
  ·
   try simp only [an4, an5, an6, an7, an8, an9, aoa, aob] at hc29
   refine rg <| mv Y <| mv Y <| ev (Ev.bX kU Y Y (K5.x s0)) ?_
   obtain ⟨x2, hx2⟩ := get_some (xs := ys) (i := i) (by omega)
   refine ev (Ev.index (i := i) Tryz.underlying22 eO Y Y Y (aC hx2) ((K5.o s1).some_ hx2)) ?_
   refine se (i := i) (f := 0) (x := x2) (x' := x1) (ds := [.int .i64 x1.ID, .int .i64 x1.dA, .int .i64 x1.fI, .int .i64 x1.dz]) K5 s1 Y Y Y hx2 Y eO (Nat.le_of_ble_eq_true Y) Y (fun _ _ _ h => by have h' : _ = _ := h; subst h'; rfl) fun w6 K6 => ?_
   have hl1 : (ys.set i x1).length = ys.length := List.length_set ..
   refine WL.re (t := 0) (u := .slice A ys.length c) (v := .slice A ((ys.set i x1).length) c) Y (by rw [hl1]) <| WL.re (t := 17) (u := .slice A ys.length c) (v := .slice A ((ys.set i x1).length) c) rfl (by rw [hl1]) ?_
   refine WL.re (t := 22) (u := .slice A ys.length c) (v := .slice A ((ys.set i x1).length) c) Y (by rw [hl1]) <| WL.re (t := 30) (u := .slice A ys.length c) (v := .slice A ((ys.set i x1).length) c) rfl (by rw [hl1]) ?_
   have hx3 : (ys.set i x1)[i]? = some x1 := List.getElem?_set_self (aC hx2)
   refine dn <| eP <| mv Y <| ev (Ev.add Y Y (eX.mk (by omega) (by omega))) <| aR Y <| eT <| aA.aS (aA.norm ?_)
   refine eP <| mv Y <| ev (Ev.add Y Y (eX.mk (by omega) (by omega))) <| aR Y <| eT ?_
   exact aA.ag ⟨(i + 1), (j + 1), (ys.set i x1), Y, Y, by first | exact hys | (rw [List.length_set]; exact hys), by omega, by first | exact (nk hij.1 htk hdr hx1 (by simp [hc29])).1 | exact (nu htk hdr hx1 (by simp [hc29])).1, by first | exact (nk hij.1 htk hdr hx1 (by simp [hc29])).2 | exact (nu htk hdr hx1 (by simp [hc29])).2, (K6.rm s1)⟩ rfl (by omega)
  try simp only [an4, an5, an6, an7, an8, an9, aoa, aob] at hc29
  refine WP.skip (aA.aS (aA.norm ?_))
  refine eP <| mv Y <| ev (Ev.add Y Y (eX.mk (by omega) (by omega))) <| aR Y <| eT ?_
  exact aA.ag ⟨i, (j + 1), ys, Y, Y, by first | exact hys | (rw [List.length_set]; exact hys), by omega, by first | exact (nk hij.1 htk hdr hx1 (by simp [hc29])).1 | exact (nu htk hdr hx1 (by simp [hc29])).1, by first | exact (nk hij.1 htk hdr hx1 (by simp [hc29])).2 | exact (nu htk hdr hx1 (by simp [hc29])).2, (K5.rm s0)⟩ rfl (by omega)
 replace hc19 := of_decide_eq_false hc19
 refine WP.exit (aA.aF (aA.aF (aA.bS (aA.norm ?_))))
 have hcap : ys.length ≤ c := by omega
 have hil : (ys.take i).length = i := by simp only [List.length_take]; omega
 have hfin : ys.take i = xs.filter fun x => !p x := by rw [htk, List.take_of_length_le (by omega)]
 refine WP.re (t := 5) (u := .int .i64 ((i : Nat) : Int)) (v := .int .i64 (((ys.take i).length : Nat) : Int)) Y (by rw [hil]) ?_
 have H1 := K2.IL (hi := i) s0 (by omega)
 refine rg <| mv Y <| mv Y <| ev (Ev.mM (lo := (ys.take i).length) Tryz.underlying22 eO Y Y Y (by first | omega | (simp only [List.length_take]; omega)) hcap) ?_
 refine aa2 (τ := tNode) (m := ys.length - (ys.take i).length) H1 s0 Y Tryz.underlying22 aem (by simp only [List.length_take]; omega) fun w7 K7 => ?_
 refine dn <| rg <| mv Y <| mv Y <| ev (Ev.Dw (hi := (ys.take i).length) Tryz.underlying22 eO Y Y Y (by simp only [List.length_take]; omega)) <| aR rfl <| dn ?_
 refine WP.ret (aA.aD Y Y Y ?_)
 exact ⟨by rw [← hfin]; rfl, by rw [← hfin]; exact K7⟩
theorem abx {S0 : Nat → Prop} (w : World) {eB : an3} {eD : Nat} {au : List AChunk} (eF : Sl tChunk S0 w eB eD au) {d9 : an3} {eu : Nat} {l : List ANode} (dN : Sl tNode S0 w d9 eu l) {cZ : an3} {dh : Nat} {ah : List Int} (cu : Sl tInt S0 w cZ dh ah) (hn : l.length ≤ 100000) :
    bY Tryz.prog 144 #[.slice eB au.length eD, .slice d9 l.length eu, .slice cZ ah.length dh] w fun v w' => ∃ (A0 : an3) (c0 : Nat) (A1 : an3) (c1 : Nat), v = .tuple #[.slice A0 ((aU l ah).length) c0, .slice A1 ((bT au l ah).length) c1] ∧ Hp w S0 w' [aQ tNode 63 A0 c0 (aU l ah), aQ fO 173 A1 c1 (bT au l ah)] := by
 refine WP.enter Tryz.func144 Y Tryz.ntmps144 Y ?_
 have H0 := Hp.init w S0
 have oL := eF.aN
 have iJ := dN.aN
 have iy := cu.aN
 refine rg ?_
 refine bx Y Y H0 fun g1 w1 K1 => ?_
 refine aR Y <| aR Y <| dn <| WP.seq <| rg <| mv Y ?_
 refine C0 K1 Y Y Y Og (I4 _ (K1.a dN).any) fun w2 K2 => ?_
 refine ev (Ev.not Y) <| dn ?_
 refine WP.aG Y (fun fK => ?_) (fun fK => ?_)
 ·
  try simp only [an4, an5, an6, an7, an8, an9, aoa, aob] at fK
  refine rg <| aR Y <| aR Y <| dn ?_
  refine WP.ret (aA.aP (aA.aD Y Y Y ?_))
  have H1 := K2.nil tNode 63
  have hq1 : (([] : List ANode) : List ANode) = (aU l ah) := by unfold aU; rw [if_neg (by rw [fK]; decide)]
  have H2 := (hq1 ▸ H1 : Hp w S0 w2 (aQ tNode 63 none 0 (aU l ah) :: [dG g1 51 [.slice cZ ah.length dh]]))
  have H3 := H2.nil fO 173
  have hq2 : (([] : List bP) : List bP) = (bT au l ah) := by unfold bT aU; rw [if_neg (by rw [fK]; decide)]; rfl
  have H4 := (hq2 ▸ H3 : Hp w S0 w2 (aQ fO 173 none 0 (bT au l ah) :: [aQ tNode 63 none 0 (aU l ah), dG g1 51 [.slice cZ ah.length dh]]))
  exact ⟨none, 0, none, 0, by rw [← hq1, ← hq2] <;> rfl, (((H4.rm s2).sel s0).sel s1)⟩
 try simp only [an4, an5, an6, an7, an8, an9, aoa, aob] at fK
 refine WP.skip (aA.norm ?_)
 refine rg <| ev (Ev.func Y) <| aR Y <| dn <| rg <| mv Y <| WL.call Y Y Y IZ (p8 _ (K2.a dN).any (by omega)) Y ?_
 rintro _ w3 ⟨qW, qX, rfl, h3⟩
 have K3 := K2.f1 h3
 refine mv Y <| WL.call Y Y Y abr (zq (kd := [.pointer (some ⟨g1, 0, none⟩)]) (K3.sel s0) abt (fun x9 => uI ah x9) (fun w9 ys x9 YK K9 => (YJ (S0 := Any) w9 x9 (K9.x s1) (K9.a cu).any).mono (by rintro _ w8 ⟨rfl, K8⟩; exact ⟨rfl, K8.ext⟩)) (by omega)) rfl ?_
 rintro _ w4 ⟨rfl, K4⟩
 refine aR Y <| dn ?_
 have hfl : (aU l ah).length ≤ l.length := by unfold aU; rw [if_pos fK]; exact List.length_filter_le _ _
 have hfe : ((l.filter fun x9 => !(uI ah x9)) : List ANode) = aU l ah := by unfold aU; rw [if_pos fK]
 rw [hfe] at K4
 refine WP.re (t := 1) Y (congrArg (fun (z : List ANode) => Value.slice qW z.length qX) hfe) <| rg <| mv Y <| mv Y <| mv Y <| WL.call Y Y Y UY (GR _ (K4.a eF).any (K4.o s0) (by omega)) Y ?_
 rintro _ w5 ⟨zu, zw, rfl, h5⟩
 have K5 := K4.f1 h5
 have U2 := (K5.o s0).aN
 refine aR Y <| aR Y <| dn ?_
 refine WP.ret (aA.aD Y Y Y ?_)
 have hq3 : (iU au (aU l ah) : List bP) = (bT au l ah) := by rfl
 rw [hq3] at K5
 exact ⟨qW, qX, zu, zw, by rw [hq3] <;> rfl, (((K5.rm s2).sel s0).sel s1)⟩
end Go.Proofs.YtjcklpooaaaglaaGreat
set_option maxRecDepth 4000
set_option linter.all false
namespace Go.Proofs.YtjcklpooaaaglaaGreat
open Go.RowKit
theorem KY (cs : List AChunk) (id : Int) : bQ cs id ≤ cs.length := List.length_filter_le _ _
theorem Oi {cs : List AChunk} {l : List ANode} {ah : List Int} {x : bP} (h : x ∈ bT cs l ah) : 0 ≤ x.N ∧ x.N ≤ cs.length := by
  unfold bT iU at h
  split at h
  · obtain ⟨n, _, rfl⟩ := List.mem_map.1 h
    have := KY cs n.ID
    exact ⟨Int.natCast_nonneg _, by simp only; omega⟩
  · simp at h
end Go.Proofs.YtjcklpooaaaglaaGreat
set_option maxRecDepth 4000
set_option linter.all false
namespace Go.Proofs.YtjcklpooaaaglaaGreat
open Go.RowKit
def tN (h : List Int) (fr dM : Int) : List Int := ((h.filter fun (x9 : Int) => !(decide (x9 = fr))) ++ [dM]).mergeSort fun (x y : Int) => decide (x ≤ y)
def tO (l : List ANode) (s : List Int) (id : Int) : List Int := if bZ l id = true then wE s (bL l id).dA else s
def dH (l : List ANode) (ids : List Int) : List Int := ids.foldl (tO l) []
def nV (l : List ANode) (ids : List Int) : Nat := (dH l ids).length
theorem rF {l : List ANode} {ids : List Int} {k : Nat} {x : Int} (hx : ids[k]? = some x) : dH l (ids.take (k + 1)) = tO l (dH l (ids.take k)) x := by
  rw [dK hx]; simp [dH]
def jB (c : AChunk) (l : List ANode) (fr dM : Int) : Bool := c.av.contains fr && !c.av.contains dM && decide (nV l c.av ≤ nV l (tN c.av fr dM))
theorem aby : aM Tryz.prog 109 := fun _ _ => by kernel_rfl
theorem ain : qC Tryz.prog 3 1 8 := by
  obtain ⟨i, h1, h2, h3, h4⟩ := info_parts (show (Tryz.prog.info? 3).map (fun i => (i.zero, i.size, i.bytes)) = some (some (.int .i64 0), 1, 8) by kernel_rfl)
  exact ⟨i, _, h1, h2, h3, h4, Y, fun v hv => List.all_eq_true.1 (show (Value.cells (.int .i64 0)).toList.all (fun v => v.oneCell') = true from Y) v hv⟩
theorem GU : aM Tryz.prog 60 := fun _ _ => by kernel_rfl
theorem abz : aM Tryz.prog 189 := fun _ _ => by kernel_rfl
theorem abA : aM Tryz.prog 190 := fun _ _ => by kernel_rfl
theorem GV : aM Tryz.prog 29 := fun _ _ => by kernel_rfl
theorem abB : aM Tryz.prog 181 := fun _ _ => by kernel_rfl
theorem U3 : aM Tryz.prog 180 := fun _ _ => by kernel_rfl
theorem CP {S0 : Nat → Prop} (w : World) {qE : an3} {qF : Nat} {s : List Int} (j3 : Sl tInt S0 w qE qF s) {Aw : FuncId} {Az : List Value} (Oa : aM Tryz.prog Aw) (f : Int → Bool) (Ob : ∀ (w' : World) (x : Int), Ext w w' → x ∈ s → bY Tryz.prog Aw (([.int .i64 x] : List Value) ++ Az).toArray w' fun v w'' => v = .bool (f x) ∧ Ext w' w'') :
    bY Tryz.prog 109 #[.slice qE s.length qF, .func (.func Aw) #[] Az.toArray] w fun v w' => v = .int .i64 (idxOf f s) ∧ Hp w S0 w' [] := by
 refine WP.enter Tryz.func109 Y Tryz.ntmps109 Y ?_
 have H0 := Hp.init w S0
 have yH := j3.aN
 refine rg <| aR Y <| dn <| WP.seq <| rg <| mv Y <| ev (Ev.len Tryz.underlying51 Y) <| mv Y <| dn <| WP.block <| Lp H0 (fun l0 rk mJ lJ wJ => ∃ (k : Nat), lJ = (8, .int .i64 ((k : Nat) : Int)) :: l0 ∧ mJ = s.length - k ∧ k ≤ s.length ∧ (∀ y ∈ s.take k, f y = false) ∧ Hp w S0 wJ rk) ⟨0, Y, Y, Nat.zero_le _, by simp, H0⟩ rfl ?_
 rintro _ _ w1 ⟨k, rfl, rfl, hk, hno, K1⟩
 refine rg <| ev (Ev.lss Y Y) <| dn ?_
 refine WP.cond Y (fun jE => ?_) (fun jE => ?_)
 ·
  replace jE := of_decide_eq_true jE
  refine WP.skip (aA.norm ?_)
  refine WP.seq <| WP.block <| rg <| mv Y <| aR Y <| dn <| rg <| mv Y <| mv Y <| mv Y ?_
  obtain ⟨x1, hx1⟩ := get_some (xs := s) (i := k) (by omega)
  refine ev (Ev.index (i := k) Tryz.underlying51 iC Y Y Y (aC hx1) ((K1.a j3).some_ hx1)) <| ev (Ev.aZ bf Y ((K1.a j3).aX (j := 0) hx1 Y)) ?_
  refine WL.call Y Y Y Oa (Ob _ x1 K1.ext (bV hx1)) Y ?_
  rintro _ w2 ⟨rfl, e2⟩
  have K2 := K1.grow e2
  refine dn ?_
  refine WP.aG Y (fun hc16 => ?_) (fun hc16 => ?_)
  ·
   refine rg <| mv Y <| aR Y <| dn ?_
   refine WP.ret (aA.bW (aA.aP (aA.aP (aA.bW (aA.aP (aA.aD Y Y Y ?_))))))
   have hq1 : (((k : Nat) : Int) : Int) = (idxOf f s) := by exact (jU hno hx1 hc16).symm
   exact ⟨by rw [hq1] <;> rfl, K2⟩
  refine WP.skip (aA.aS (aA.norm ?_))
  refine eP <| ev (Ev.add Y Y (eX.mk (by omega) (by omega))) <| mv Y <| eT ?_
  exact aA.ag ⟨(k + 1), Y, Y, by omega, by exact gP (q := fun y => f y = false) hno hx1 hc16, K2⟩ rfl (by omega)
 replace jE := of_decide_eq_false jE
 refine WP.exit (aA.aF (aA.aF (aA.bS (aA.norm ?_))))
 refine rg <| aR Y <| dn ?_
 refine WP.ret (aA.aD Y Y Y ?_)
 have hq2 : ((-1) : Int) = (idxOf f s) := by exact (kI (jf hno (by omega))).symm
 exact ⟨by rw [← hq2] <;> rfl, K1⟩
theorem jG {b w : World} {S : Nat → Prop} {F : List jP} {A : an3} {c : Nat} {xs : List Int} (H0 : Hp b S w (aQ tInt 3 A c xs :: F)) {fd : FuncId} {kd : List Value} (qd : aM Tryz.prog fd) (p : Int → Bool)
    (hd : ∀ (w' : World) (ys : List Int) (x : Int), ys.length = xs.length → Hp b S w' (aQ tInt 3 A c ys :: F) → bY Tryz.prog fd (([.int .i64 x] : List Value) ++ kd).toArray w' fun v w'' => v = .bool (p x) ∧ Ext w' w'') (hn : xs.length ≤ 1000000) :
    bY Tryz.prog 60 #[.slice A xs.length c, .func (.func fd) #[] kd.toArray] w fun v w' => v = .slice A (xs.filter fun x => !p x).length c ∧ Hp b S w' (aQ tInt 3 A c (xs.filter fun x => !p x) :: F) := by
 refine WP.enter Tryz.func60 Y Tryz.ntmps60 Y ?_
 have ZH := (H0.o s0).aN
 have hcap0 := (H0.o s0).cap
 have hlt := vZ (p := p) xs
 have hge := vY (p := p) xs
 refine rg <| aR Y <| dn <| rg <| mv Y <| mv Y <| WL.call Y Y Y aby (CP (S0 := Any) (Az := kd) w ((H0.o s0)) qd p (fun w' x ex _ => hd w' xs x Y (H0.grow ex))) Y ?_
 rintro _ w1 ⟨rfl, e1⟩
 have K1 := H0.grow e1.ext
 refine aR Y <| dn <| WP.seq <| rg <| mv Y <| ev (Ev.eql Y Y) <| dn ?_
 refine WP.aG Y (fun iL => ?_) (fun iL => ?_)
 ·
  replace iL := of_decide_eq_true iL
  refine rg <| mv Y <| aR Y <| dn ?_
  refine WP.ret (aA.aP (aA.aD Y Y Y ?_))
  have hall := DZ (p := p) (xs := xs) (by omega)
  exact ⟨by rw [hall]; rfl, by rw [hall]; exact K1⟩
 replace iL := of_decide_eq_false iL
 refine WP.skip (aA.norm ?_)
 refine WP.seq ?_
 obtain ⟨k0, hk0, hkl⟩ : ∃ k0 : Nat, idxOf p xs = (k0 : Int) ∧ k0 < xs.length := ⟨(idxOf p xs).toNat, by omega, by omega⟩
 have U1 := D5 hk0
 refine WP.re (t := 5) Y (congrArg (Value.int .i64) hk0) <| rg <| mv Y <| ev (Ev.add Y Y (eX.mk (by omega) (by omega))) <| aR Y <| dn <| WP.block <| Lp (K1.rm s0) (fun l0 rk mJ lJ wJ => ∃ (i j : Nat) (ys : List Int), lJ = (0, .slice A ys.length c) :: (5, .int .i64 ((i : Nat) : Int)) :: (6, .int .i64 ((j : Nat) : Int)) :: l0 ∧ mJ = xs.length - j ∧ (ys.length = xs.length) ∧ (i < j ∧ j ≤ xs.length) ∧ (ys.take i = (xs.take j).filter fun x => !p x) ∧ (ys.drop j = xs.drop j) ∧ Hp b S wJ (aQ tInt 3 A c ys :: rk)) ⟨k0, (k0 + 1), xs, Y, Y, by rfl, by omega, by exact U1.1, by rfl, K1⟩ rfl ?_
 rintro _ _ w2 ⟨i, j, ys, rfl, rfl, hys, hij, htk, hdr, K2⟩
 refine WP.seq <| rg <| mv Y <| mv Y <| ev (Ev.len Tryz.underlying51 Y) <| ev (Ev.lss Y Y) <| dn ?_
 refine WP.aG Y (fun hc19 => ?_) (fun hc19 => ?_)
 ·
  replace hc19 := of_decide_eq_true hc19
  refine WP.skip (aA.norm ?_)
  refine WP.seq <| WP.block <| rg <| mv Y <| mv Y ?_
  obtain ⟨x1, hx1⟩ := get_some (xs := ys) (i := j) (by omega)
  refine ev (Ev.index (i := j) Tryz.underlying51 iC Y Y Y (aC hx1) ((K2.o s0).some_ hx1)) <| ev (Ev.aZ bf Y ((K2.o s0).aX (j := 0) hx1 Y)) ?_
  refine aR Y <| dn <| rg <| mv Y <| mv Y <| WL.call Y Y Y qd (hd _ _ x1 (by first | exact hys | omega) K2) rfl ?_
  rintro _ w3 ⟨rfl, e3⟩
  have K3 := K2.grow e3
  refine ev (Ev.not Y) <| dn ?_
  refine WP.aG Y (fun hc29 => ?_) (fun hc29 => ?_)
  ·
   try simp only [an4, an5, an6, an7, an8, an9, aoa, aob] at hc29
   refine rg <| mv Y <| mv Y <| mv Y ?_
   obtain ⟨x2, hx2⟩ := get_some (xs := ys) (i := i) (by omega)
   refine ev (Ev.index (i := i) Tryz.underlying51 iC Y Y Y (aC hx2) ((K3.o s0).some_ hx2)) ?_
   refine se (i := i) (f := 0) (x := x2) (x' := x1) (ds := [.int .i64 x1]) K3 s0 Y Y Y hx2 Y iC (Nat.le_of_ble_eq_true Y) Y (fun _ _ _ h => by have h' : _ = _ := h; subst h'; rfl) fun w4 K4 => ?_
   have hl1 : (ys.set i x1).length = ys.length := List.length_set ..
   refine WL.re (t := 0) (u := .slice A ys.length c) (v := .slice A ((ys.set i x1).length) c) Y (by rw [hl1]) <| WL.re (t := 17) (u := .slice A ys.length c) (v := .slice A ((ys.set i x1).length) c) rfl (by rw [hl1]) ?_
   refine WL.re (t := 22) (u := .slice A ys.length c) (v := .slice A ((ys.set i x1).length) c) Y (by rw [hl1]) <| WL.re (t := 30) (u := .slice A ys.length c) (v := .slice A ((ys.set i x1).length) c) rfl (by rw [hl1]) ?_
   have hx3 : (ys.set i x1)[i]? = some x1 := List.getElem?_set_self (aC hx2)
   refine dn <| eP <| mv Y <| ev (Ev.add Y Y (eX.mk (by omega) (by omega))) <| aR Y <| eT <| aA.aS (aA.norm ?_)
   refine eP <| mv Y <| ev (Ev.add Y Y (eX.mk (by omega) (by omega))) <| aR Y <| eT ?_
   exact aA.ag ⟨(i + 1), (j + 1), (ys.set i x1), Y, Y, by first | exact hys | (rw [List.length_set]; exact hys), by omega, by first | exact (nk hij.1 htk hdr hx1 (by simp [hc29])).1 | exact (nu htk hdr hx1 (by simp [hc29])).1, by first | exact (nk hij.1 htk hdr hx1 (by simp [hc29])).2 | exact (nu htk hdr hx1 (by simp [hc29])).2, K4⟩ rfl (by omega)
  try simp only [an4, an5, an6, an7, an8, an9, aoa, aob] at hc29
  refine WP.skip (aA.aS (aA.norm ?_))
  refine eP <| mv Y <| ev (Ev.add Y Y (eX.mk (by omega) (by omega))) <| aR Y <| eT ?_
  exact aA.ag ⟨i, (j + 1), ys, Y, Y, by first | exact hys | (rw [List.length_set]; exact hys), by omega, by first | exact (nk hij.1 htk hdr hx1 (by simp [hc29])).1 | exact (nu htk hdr hx1 (by simp [hc29])).1, by first | exact (nk hij.1 htk hdr hx1 (by simp [hc29])).2 | exact (nu htk hdr hx1 (by simp [hc29])).2, K3⟩ rfl (by omega)
 replace hc19 := of_decide_eq_false hc19
 refine WP.exit (aA.aF (aA.aF (aA.bS (aA.norm ?_))))
 have hcap : ys.length ≤ c := by omega
 have hil : (ys.take i).length = i := by simp only [List.length_take]; omega
 have hfin : ys.take i = xs.filter fun x => !p x := by rw [htk, List.take_of_length_le (by omega)]
 refine WP.re (t := 5) (u := .int .i64 ((i : Nat) : Int)) (v := .int .i64 (((ys.take i).length : Nat) : Int)) Y (by rw [hil]) ?_
 have H1 := K2.IL (hi := i) s0 (by omega)
 refine rg <| mv Y <| mv Y <| ev (Ev.mM (lo := (ys.take i).length) Tryz.underlying51 iC Y Y Y (by first | omega | (simp only [List.length_take]; omega)) hcap) ?_
 refine aa2 (τ := tInt) (m := ys.length - (ys.take i).length) H1 s0 Y Tryz.underlying51 ain (by simp only [List.length_take]; omega) fun w5 K5 => ?_
 refine dn <| rg <| mv Y <| mv Y <| ev (Ev.Dw (hi := (ys.take i).length) Tryz.underlying51 iC Y Y Y (by simp only [List.length_take]; omega)) <| aR rfl <| dn ?_
 refine WP.ret (aA.aD Y Y Y ?_)
 exact ⟨by rw [← hfin]; rfl, by rw [← hfin]; exact K5⟩
theorem KZ {S0 : Nat → Prop} (w : World) (n : Int) {aen : Nat} (fr : Int) (aio : Bx w aen 3 [.int .i64 fr]) :
    bY Tryz.prog 189 #[.int .i64 n, .pointer (some ⟨aen, 0, none⟩)] w fun v w' => v = .bool (decide (n = fr)) ∧ Hp w S0 w' [] := by
 refine WP.enter Tryz.func189 Y Tryz.ntmps189 Y ?_
 have H0 := Hp.init w S0
 refine rg <| aR Y <| dn <| rg <| mv Y <| ev (Ev.aj bf Y (aio.ext H0.ext) Y) <| ev (Ev.eql Y Y) <| aR Y <| dn ?_
 refine WP.ret (aA.aD Y Y Y ?_)
 exact ⟨Y, H0⟩
theorem Oj {S0 : Nat → Prop} (w : World) {A_h : an3} {c_h : Nat} {h : List Int} (h_h : Sl tInt S0 w A_h c_h h) (fr : Int) (dM : Int) (hn : h.length ≤ 100000) :
    bY Tryz.prog 181 #[.slice A_h h.length c_h, .int .i64 fr, .int .i64 dM] w fun v w' => ∃ (A0 : an3) (c0 : Nat), v = .slice A0 ((tN h fr dM).length) c0 ∧ Hp w S0 w' [aQ tInt 3 A0 c0 (tN h fr dM)] := by
 refine WP.enter Tryz.func181 Y Tryz.ntmps181 Y ?_
 have H0 := Hp.init w S0
 have aip := h_h.aN
 refine rg ?_
 refine bx Y Y H0 fun g1 w1 K1 => ?_
 refine aR Y <| dn <| rg <| mv Y <| WL.call Y Y Y KN (o7 _ (K1.a h_h).any (by omega)) Y ?_
 rintro _ w2 ⟨lD, lF, rfl, h2⟩
 have K2 := K1.f1 h2
 refine ev (Ev.func Y) <| WL.call Y Y Y GU (jG (kd := [.pointer (some ⟨g1, 0, none⟩)]) (K2.sel s0) abz (fun x9 => decide (x9 = fr)) (fun w9 ys x9 YK K9 => (KZ (S0 := Any) w9 x9 fr (K9.x s1)).mono (by rintro _ w8 ⟨rfl, K8⟩; exact ⟨rfl, K8.ext⟩)) (by omega)) rfl ?_
 rintro _ w3 ⟨rfl, K3⟩
 refine aR Y <| dn ?_
 have hfl := List.length_filter_le (fun (x9 : Int) => !(decide (x9 = fr))) h
 refine rg <| mv Y <| mv Y ?_
 refine ni (τ := tInt) (x := dM) Y (by intro _; apply jk) rfl K3 (fun _ _ => rfl) fun g2 w4 K4 => ?_
 refine ap (ys := ([dM] : List Int)) K4 s1 Y Y (K4.o s0) Tryz.underlying51 uF (by omega) (by simp) Y fun jg jh w5 K5 => ?_
 refine aR Y <| dn <| rg <| mv Y <| WL.call Y Y Y abA (sorti Tryz.lays189 (K5.sel s0) (by simp only [List.length_append, List.length_cons, List.length_nil]; omega)) rfl ?_
 rintro _ w6 ⟨rfl, K6⟩
 have hl1 : (((h.filter fun x9 => !(decide (x9 = fr))) ++ ([dM] : List Int)).mergeSort fun (x y : Int) => decide (x ≤ y)).length = ((h.filter fun x9 => !(decide (x9 = fr))) ++ ([dM] : List Int)).length := List.length_mergeSort _
 refine WL.re (t := 0) (u := .slice jg (((h.filter fun x9 => !(decide (x9 = fr))) ++ ([dM] : List Int)).length) jh) (v := .slice jg ((((h.filter fun x9 => !(decide (x9 = fr))) ++ ([dM] : List Int)).mergeSort fun (x y : Int) => decide (x ≤ y)).length) jh) Y (by rw [hl1]) ?_
 refine WL.re (t := 14) (u := .slice jg (((h.filter fun x9 => !(decide (x9 = fr))) ++ ([dM] : List Int)).length) jh) (v := .slice jg ((((h.filter fun x9 => !(decide (x9 = fr))) ++ ([dM] : List Int)).mergeSort fun (x y : Int) => decide (x ≤ y)).length) jh) Y (by rw [hl1]) ?_
 refine WL.re (t := 15) (u := .slice jg (((h.filter fun x9 => !(decide (x9 = fr))) ++ ([dM] : List Int)).length) jh) (v := .slice jg ((((h.filter fun x9 => !(decide (x9 = fr))) ++ ([dM] : List Int)).mergeSort fun (x y : Int) => decide (x ≤ y)).length) jh) Y (by rw [hl1]) ?_
 refine dn <| rg <| mv Y <| aR Y <| dn ?_
 refine WP.ret (aA.aD Y Y Y ?_)
 have hq1 : ((((h.filter fun x9 => !(decide (x9 = fr))) ++ ([dM] : List Int)).mergeSort fun (x y : Int) => decide (x ≤ y)) : List Int) = (tN h fr dM) := by rfl
 rw [hq1] at K6
 exact ⟨jg, jh, by rw [hq1] <;> rfl, ((K6.rm s2).rm s1)⟩
theorem La {S0 : Nat → Prop} (w : World) {d9 : an3} {eu : Nat} {l : List ANode} (dN : Sl tNode S0 w d9 eu l) {BN : an3} {BO : Nat} {ids : List Int} (wN : Sl tInt S0 w BN BO ids) (hn : l.length ≤ 100000) :
    bY Tryz.prog 180 #[.slice d9 l.length eu, .slice BN ids.length BO] w fun v w' => v = .int .i64 ((nV l ids : Nat) : Int) ∧ Hp w S0 w' [] := by
 refine WP.enter Tryz.func180 Y Tryz.ntmps180 Y ?_
 have H0 := Hp.init w S0
 have iJ := dN.aN
 have U4 := wN.aN
 refine rg <| aR Y <| dn <| rg ?_
 refine mks H0 Y fun g1 w1 K1 => ?_
 refine aR Y <| dn <| WP.seq <| rg <| mv Y <| ev (Ev.len Tryz.underlying51 Y) <| mv Y <| dn <| WP.block ?_
 have hq1 : [] = (dH l (ids.take 0)) := by rfl
 rw [hq1] at K1
 refine Lp (K1.rm s0) (fun l0 rk mJ lJ wJ => ∃ (k : Nat), lJ = (13, .int .i64 ((k : Nat) : Int)) :: l0 ∧ mJ = ids.length - k ∧ k ≤ ids.length ∧ Hp w S0 wJ (Ut g1 (dH l (ids.take k)) :: rk)) ⟨0, Y, Y, Nat.zero_le _, K1⟩ Y ?_
 rintro _ _ w2 ⟨k, rfl, rfl, hk, K2⟩
 refine rg <| ev (Ev.lss Y Y) <| dn ?_
 refine WP.cond Y (fun fE => ?_) (fun fE => ?_)
 ·
  replace fE := of_decide_eq_true fE
  refine WP.skip (aA.norm ?_)
  refine WP.seq <| WP.block <| rg ?_
  obtain ⟨x1, hx1⟩ := get_some (xs := ids) (i := k) (by omega)
  refine ev (Ev.index (i := k) Tryz.underlying51 iC Y Y Y (aC hx1) ((K2.a wN).some_ hx1)) <| ev (Ev.aZ bf Y ((K2.a wN).aX (j := 0) hx1 Y)) ?_
  refine aR Y <| dn <| rg <| mv Y <| mv Y ?_
  refine C0 K2 Y Y Y GV (tL _ (K2.a dN).any x1 (by omega)) fun w3 K3 => ?_
  refine mv Y <| xt Y Y <| xt Y Y ?_
  refine al iM Y K3 fun g2 w4 K4 => ?_
  refine iW Y Y Y eO K4 s0 Y Y fun w5 K5 => ?_
  refine aR Y <| dn <| rg <| mv Y <| dn ?_
  refine WP.aG Y (fun jS => ?_) (fun jS => ?_)
  ·
   refine eP <| mv Y <| ev (Ev.field (q := ⟨g2, 1, none⟩) l7 Y Y) <| ev (Ev.aj bf Y (K5.x s0) Y) ?_
   refine ad9 K5 s1 Y Y Y Tryz.underlying165 Tryz.underlying3 fun w6 K6 => ?_
   refine eT ?_
   refine aA.aS (aA.norm ?_)
   refine eP <| ev (Ev.add Y Y (eX.mk (by omega) (by omega))) <| mv Y <| eT ?_
   have hq2 : (wE (dH l (ids.take k)) ((bL l x1).dA)) = (dH l (ids.take (k + 1))) := by rw [rF hx1]; unfold tO; first | rw [if_pos jS] | rw [if_neg (by rw [jS]; decide)]
   rw [hq2] at K6
   exact aA.ag ⟨(k + 1), Y, Y, by omega, (K6.rm s1)⟩ rfl (by omega)
  refine WP.skip (aA.aS (aA.norm ?_))
  refine eP <| ev (Ev.add Y Y (eX.mk (by omega) (by omega))) <| mv Y <| eT ?_
  have hq3 : (dH l (ids.take k)) = (dH l (ids.take (k + 1))) := by rw [rF hx1]; unfold tO; first | rw [if_pos jS] | rw [if_neg (by rw [jS]; decide)]
  rw [hq3] at K5
  exact aA.ag ⟨(k + 1), Y, Y, by omega, (K5.rm s0)⟩ rfl (by omega)
 replace fE := of_decide_eq_false fE
 refine WP.exit (aA.aF (aA.aF (aA.bS (aA.norm ?_))))
 refine rg <| mv Y <| ev (Ev.aib K2 s0 Tryz.underlying165 Y) <| aR Y <| dn ?_
 refine WP.ret (aA.aD Y Y Y ?_)
 have hq4 : (((dH l (ids.take k))).length : Nat) = (nV l ids) := by rw [List.take_of_length_le (by omega)]; rfl
 exact ⟨by rw [hq4] <;> rfl, (K2.rm s0)⟩
theorem YL {S0 : Nat → Prop} (w : World) (c : AChunk) {kR : an3} {kS : Nat} (nC : Sl tInt S0 w kR kS c.av) {d9 : an3} {eu : Nat} {l : List ANode} (dN : Sl tNode S0 w d9 eu l) (fr : Int) (dM : Int) (hn : l.length ≤ 100000) (hh : c.av.length ≤ 100000) :
    bY Tryz.prog 146 #[.agg #[.int .i64 c.ID, .int .i64 c.ay, .int .u32 c.Sum, .slice kR c.av.length kS], .slice d9 l.length eu, .int .i64 fr, .int .i64 dM] w fun v w' => v = .bool (jB c l fr dM) ∧ Hp w S0 w' [] := by
 refine WP.enter Tryz.func146 Y Tryz.ntmps146 Y ?_
 have H0 := Hp.init w S0
 have iJ := dN.aN
 refine rg ?_
 refine bx Y Y H0 fun g1 w1 K1 => ?_
 refine aR Y <| dn ?_
 refine He K1 (fun _ K => K) (fun l0 rk lJ wJ => lJ = (8, .bool (jB c l fr dM)) :: l0 ∧ Hp w S0 wJ rk) (fun hns H1 => ?_) ?_
 ·
  refine Tn 0 1 hns Y (fun _ _ => Ev.field (q := ⟨g1, 3, none⟩) fT Y Y) H1 <| Tn 1 3 hns Y (fun _ hK => Ev.aj gK Y (hK.x s0) Y) H1 ?_
  refine Tm 2 7 hns Y Y H1 <| O1 3 Y ?_
  refine C0 H1 Y Y Y yx (iq _ (H1.a nC).any fr) fun w2 K2 => ?_
  refine WH.next K2 <| Tm 4 31 hns Y Y K2 ?_
  cases aes : c.av.contains fr with
  | true =>
   refine Tg 5 63 hns Y Y (fun _ _ => Ev.field (q := ⟨g1, 3, none⟩) fT Y Y) K2 <| Tg 6 127 hns Y Y (fun _ hK => Ev.aj gK Y (hK.x s0) Y) K2 ?_
   refine Tg 7 255 hns Y Y (fun _ _ => Ev.move Y) K2 <| O1 8 Y <| WL.jd Y Y Y Y yx (iq _ (K2.a nC).any dM) Y ?_
   rintro _ w3 ⟨rfl, h3⟩
   have K3 := K2.c0 h3
   refine WH.next K3 <| Tg 9 1023 hns Y Y (fun _ _ => Ev.not Y) K3 <| Tn 10 2047 hns Y (fun _ _ => Ev.bq Y Y) K3 <| Tm 11 4095 hns Y Y K3 ?_
   cases UF : (!(c.av.contains dM)) with
   | true =>
    refine Tg 12 8191 hns Y Y (fun _ _ => Ev.move Y) K3 <| Tg 13 16383 hns Y Y (fun _ _ => Ev.field (q := ⟨g1, 3, none⟩) fT Y Y) K3 <| Tg 14 32767 hns Y Y (fun _ hK => Ev.aj gK Y (hK.x s0) Y) K3 ?_
    refine Tg 15 65535 hns Y Y (fun _ _ => Ev.move Y) K3 <| Tg 16 131071 hns Y Y (fun _ _ => Ev.move Y) K3 <| Tg 19 655359 hns Y Y (fun _ _ => Ev.move Y) K3 ?_
    refine Tg 20 1703935 hns Y Y (fun _ _ => Ev.field (q := ⟨g1, 3, none⟩) fT Y Y) K3 <| Tg 21 3801087 hns Y Y (fun _ hK => Ev.aj gK Y (hK.x s0) Y) K3 ?_
    refine O1 17 Y <| WL.jd Y Y Y Y abB (Oj _ (K3.a nC).any fr dM (by omega)) Y ?_
    rintro _ w4 ⟨sG, sH, rfl, h4⟩
    have K4 := K3.f1 h4
    have GX := (K4.o s0).aN
    have k1 := (K4.rm s0)
    refine WH.next k1 <| O1 18 Y <| WL.jd Y Y Y Y U3 (La _ (K4.a dN).any (K4.o s0) (by omega)) Y ?_
    rintro _ w5 ⟨rfl, h5⟩
    have K5 := K4.c0 h5
    have k2 := (K5.rm s0)
    refine WH.next k2 <| O1 22 Y <| WL.jd Y Y Y Y U3 (La _ (K5.a dN).any (K5.a nC).any (by omega)) Y ?_
    rintro _ w6 ⟨rfl, h6⟩
    have K6 := K5.c0 h6
    have k3 := (K6.rm s0)
    refine WH.next k3 <| Tg 23 16777215 hns Y Y (fun _ _ => Ev.geq Y Y) k3 <| Tn 24 33554431 hns Y (fun _ _ => Ev.bq Y Y) k3 <| Ta 25 67108863 hns Y Y k3 ?_
    have hq1 : (decide (((nV l c.av : Nat) : Int) ≤ ((nV l (tN c.av fr dM) : Nat) : Int)) : Bool) = jB c l fr dM := by unfold jB; simp_all
    refine WH.re2 (t := 8) Y (congrArg Value.bool hq1) ?_
    exact Dn ⟨Y, (K6.rm s0)⟩ Y
   | false =>
    refine Tp 12 8191 hns Y Y Y K3 <| Tp 13 16383 hns Y Y Y K3 <| Tp 14 32767 hns Y Y Y K3 <| Tp 15 65535 hns Y Y Y K3 <| Tp 16 131071 hns Y Y Y K3 <| Tp 19 655359 hns Y Y Y K3 <| Tp 20 1703935 hns Y Y Y K3 <| Tp 21 3801087 hns Y Y Y K3 <| O1 17 Y <| WL.pass Y Y Y <| WH.next K3 <| O1 18 Y <| WL.pass Y Y Y <| WH.next K3 <| O1 22 Y <| WL.pass Y Y Y <| WH.next K3 <| Tp 23 16777215 hns Y Y Y K3 <| Tn 24 33554431 hns Y (fun _ _ => Ev.bn Y Y) K3 ?_
    refine Ta 25 67108863 hns Y Y K3 ?_
    have hq2 : (false : Bool) = jB c l fr dM := by unfold jB; simp_all
    refine WH.re2 (t := 8) Y (congrArg Value.bool hq2) ?_
    exact Dn ⟨Y, K3⟩ Y
  | false =>
   refine Tp 5 63 hns Y Y Y K2 <| Tp 6 127 hns Y Y Y K2 <| Tp 7 255 hns Y Y Y K2 <| O1 8 Y <| WL.pass Y Y Y <| WH.next K2 <| Tp 9 1023 hns Y Y Y K2 <| Tn 10 2047 hns Y (fun _ _ => Ev.bn Y Y) K2 <| Tm 11 4095 hns Y Y K2 <| Tp 12 8191 hns Y Y Y K2 <| Tp 13 16383 hns Y Y Y K2 <| Tp 14 32767 hns Y Y Y K2 <| Tp 15 65535 hns Y Y Y K2 <| Tp 16 131071 hns Y Y Y K2 <| Tp 19 655359 hns Y Y Y K2 <| Tp 20 1703935 hns Y Y Y K2 <| Tp 21 3801087 hns Y Y Y K2 ?_
   refine O1 17 Y <| WL.pass Y Y Y <| WH.next K2 <| O1 18 Y <| WL.pass Y Y Y <| WH.next K2 <| O1 22 Y <| WL.pass Y Y Y <| WH.next K2 <| Tp 23 16777215 hns Y Y Y K2 <| Tn 24 33554431 hns Y (fun _ _ => Ev.bn Y Y) K2 <| Ta 25 67108863 hns Y Y K2 ?_
   have hq3 : (false : Bool) = jB c l fr dM := by unfold jB; simp_all
   refine WH.re2 (t := 8) Y (congrArg Value.bool hq3) ?_
   exact Dn ⟨Y, K2⟩ Y
 rintro _ w7 ⟨rfl, K7⟩
 refine WP.ret (aA.aD Y Y Y ?_)
 exact ⟨Y, (K7.rm s0)⟩
end Go.Proofs.YtjcklpooaaaglaaGreat
