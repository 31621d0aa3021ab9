/- Texts that the statement needs, with short names. -/
import Derived.Test.YtjcklpooaaaglaaGreatvG9
import Derived.Test.YtjcklpooaaaglaaGreatvG5
set_option maxRecDepth 4000
set_option linter.all false
namespace Go.Proofs.YtjcklpooaaaglaaGreat
open Go.RowKit
structure fF where
  ds : List AOrder
  ns : List ANode
  ks : List AChunk
  ah : List Int
  aW : List AChunk
  bg : Int
  all : Int
  aJ : Int
  u : Int
def sN (ah : List Int) (c : AChunk) : List Int := c.av.filter fun (x9 : Int) => !(!(ah.contains x9))
def OY (x : fF) (c : AChunk) (ls : List ALease) : List Int := ([c.av, dO ls c.ID, dI x.ds c.ID] : List (List Int)).flatten
def lY (x : fF) (c : AChunk) (ls : List ALease) : Option ANode := lG x.ns x.ah (aO x.ks x.ns ls) (OY x c ls) x.ns
def rX (x : fF) (d : AChunk) (ls : List ALease) : Int := lV ls (sN x.ah d) x.bg
def mZ (x : fF) (c d : AChunk) (ls : List ALease) : Bool := ((lY x c ls).isSome && lq ls (sN x.ah d) x.bg) && rV ls x.bg x.all c (rX x d ls) (vR (lY x c ls)) x.u
def EY (x : fF) (c d : AChunk) (have_ : Int) : Nat → List ALease × List AOrder → List ALease × List AOrder
  | 0, s => s
  | f + 1, s => if have_ + ((dO s.1 c.ID).length : Int) < x.aJ ∧ mZ x c d s.1 = true then EY x c d have_ f (kG s.1 x.bg x.all c (rX x d s.1) (vR (lY x c s.1)) x.u, mY s.1 s.2 x.bg x.all c (rX x d s.1) (vR (lY x c s.1)) x.u) else s
def uY (x : fF) (s : List ALease × List AOrder) (n : bK) : List ALease × List AOrder := EY x (aL x.ks n.aB) (aL x.aW n.aB) n.Have 100 s
def iP (x : fF) (M : List bK) (s : List ALease × List AOrder) : List ALease × List AOrder := M.foldl (uY x) s
theorem QE {x : fF} {c d : AChunk} {h : Int} {f : Nat} {l : List ALease} {o : List AOrder} (hf : 0 < f) (h1 : h + ((dO l c.ID).length : Int) < x.aJ) (h2 : mZ x c d l = true) : EY x c d h (f - 1) (kG l x.bg x.all c (rX x d l) (vR (lY x c l)) x.u, mY l o x.bg x.all c (rX x d l) (vR (lY x c l)) x.u) = EY x c d h f (l, o) := by
  cases f with
  | zero => omega
  | succ f => symm; exact if_pos ⟨h1, h2⟩
theorem oO {x : fF} {c d : AChunk} {h : Int} {l : List ALease} {o : List AOrder} (hn : ¬ (h + ((dO l c.ID).length : Int) < x.aJ ∧ mZ x c d l = true)) : ∀ f, EY x c d h f (l, o) = (l, o)
  | 0 => rfl
  | f + 1 => if_neg hn
theorem pz {ls : List ALease} {bg all : Int} {c : AChunk} {fr dM u : Int} (h : rV ls bg all c fr dM u = true) : (dO (kG ls bg all c fr dM u) c.ID).length = (dO ls c.ID).length + 1 ∧ (kG ls bg all c fr dM u).length = ls.length + 1 ∧ ∀ os, (mY ls os bg all c fr dM u).length = os.length + 1 := by
  have e : kG ls bg all c fr dM u = ls ++ [rU c fr dM u] := if_pos h
  refine ⟨?_, by rw [e]; simp, fun os => by unfold mY; rw [if_pos h]; simp⟩
  rw [e]; unfold dO; rw [List.filter_append]; simp
theorem EZ {ls : List ALease} {bg all : Int} {c : AChunk} {fr dM u : Int} (h : rV ls bg all c fr dM u = true) : (ls.length : Int) < all := by
  have h1 : gH ls (rU c fr dM u) bg all = 0 := of_decide_eq_true h
  unfold gH at h1
  split at h1
  · cases h1
  · split at h1
    · cases h1
    · split at h1
      · cases h1
      · rename_i h3; simp only [not_or] at h3; omega
theorem wV {ls : List ALease} {bg all : Int} {c : AChunk} {fr dM u : Int} (h : rV ls bg all c fr dM u = false) : kG ls bg all c fr dM u = ls ∧ ∀ os, mY ls os bg all c fr dM u = os :=
  ⟨if_neg (by rw [h]; decide), fun os => if_neg (by rw [h]; decide)⟩
theorem Jt {a b c : Bool} (h : (!a) = true) : ((a && b) && c) = false := by cases a <;> simp_all
theorem Ju {a b c : Bool} (h : (!b) = true) : ((a && b) && c) = false := by cases b <;> simp_all
theorem Jv {a b c : Bool} (h : c = false) : ((a && b) && c) = false := by cases c <;> simp_all
theorem aai {c : Bool} (h : (!c) = false) : c = true := by cases c <;> simp_all
theorem rY {c : Bool} (h : (!c) = true) : c = false := by cases c <;> simp_all
theorem acM {a b c : Bool} (h1 : (!a) = false) (h2 : (!b) = false) (h3 : c = true) : ((a && b) && c) = true := by cases a <;> cases b <;> simp_all
theorem xV {l : List AChunk} {m : Nat} (h : ∀ x ∈ l, x.av.length ≤ m) (id : Int) : (aL l id).av.length ≤ m := by
  unfold aL; split
  · rename_i c e
    split
    · exact h c (by have := bV e; unfold iw at this; split at this; exact this; simp at this)
    · simp
  · simp
theorem oP {x : fF} {M : List bK} {k : Nat} {n : bK} {s : List ALease × List AOrder} (hn : M[k]? = some n) : iP x (M.take (k + 1)) s = uY x (iP x (M.take k) s) n := by
  unfold iP; rw [dK hn, List.foldl_append]; rfl
theorem tY : kH Tryz.prog 79 := fun _ => by kernel_rfl
theorem afx : aM Tryz.prog 81 := fun _ _ => by kernel_rfl
theorem Jw (a0 : an3) (Wj Wm : Nat) (a1 : an3) (a1n a1c : Nat) (a2 : an3) (a2n a2c : Nat) : ∀ w, (Instr.buildSlice 163 3 (List.toArray [(0, .slice a0 Wj Wm), (1, .slice a1 a1n a1c), (2, .slice a2 a2n a2c)])).run Tryz.prog w = .ok (.slice (some ⟨w.heap.size, 0, none⟩) 3 3) (w.alloc (.cells (List.toArray [.slice a0 Wj Wm, .slice a1 a1n a1c, .slice a2 a2n a2c]) 51)) := fun _ => by kernel_rfl
theorem afy : aM Tryz.prog 83 := fun _ _ => by kernel_rfl
theorem afz : aM Tryz.prog 84 := fun _ _ => by kernel_rfl
theorem afA : aM Tryz.prog 86 := fun _ _ => by kernel_rfl
theorem Wn {S0 : Nat → Prop} (w : World) (id : Int) {g_d g_r : Nat} {v0 v1 v2 v3 v4 v5 v6 v7 v8 v9 v10 v11 v12 v14 v15 v16 : Value} {AV : an3} {cV : Nat} {ah : List Int} (h_d : Bx w g_d 79 [.pointer (some ⟨g_r, 0, none⟩)]) (h_r : Bx w g_r 81 [v0, v1, v2, v3, v4, v5, v6, v7, v8, v9, v10, v11, v12, .slice AV ah.length cV, v14, v15, v16]) (afB : Sl tInt S0 w AV cV ah) :
    bY Tryz.prog 81 #[.int .i64 id, .pointer (some ⟨g_d, 0, none⟩)] w fun v w' => v = .bool (!(ah.contains id)) ∧ Hp w S0 w' [] := by
 refine WP.enter Tryz.func81 Y Tryz.ntmps81 Y ?_
 have H0 := Hp.init w S0
 have iy := afB.aN
 refine rg <| aR Y <| dn <| rg <| ev (Ev.aj tY Y (h_d.ext H0.ext) Y) <| ev (Ev.nilCheck Y) <| ev (Ev.field (q := ⟨g_r, 13, none⟩) xU Y Y) <| ev (Ev.aj gK Y (h_r.ext H0.ext) Y) <| mv Y ?_
 refine C0 H0 Y Y Y yx (iq _ (H0.a afB).any id) fun w1 K1 => ?_
 refine ev (Ev.not Y) <| aR Y <| dn ?_
 refine WP.ret (aA.aD Y Y Y ?_)
 exact ⟨Y, K1⟩
set_option maxHeartbeats 4000000 in
theorem Y8 {b w : World} {S : Nat → Prop} {F : List jP} {g : Nat} {v0 v5 v6 v11 v16 : Value} {AL : an3} {cL : Nat} {ls : List ALease} {AD : an3} {cD : Nat} {ds : List AOrder} {AO : an3} {cO : Nat} {os : List AOrder} {AN : an3} {cN : Nat} {ns : List ANode} {AK : an3} {cK : Nat} {ks : List AChunk} {AV : an3} {cV : Nat} {ah : List Int} {AS : an3} {cS : Nat} {aW : List AChunk} {bg all aJ aY now : Int} {AQ : an3} {cQ : Nat} {needs : List bK} (H0 : Hp b S w (dG g 81 [v0, .slice AL ls.length cL, .slice AD ds.length cD, .slice AN ns.length cN, .slice AK ks.length cK, v5, v6, .int .i64 bg, .int .i64 all, .int .i64 aJ, .int .i64 aY, v11, .int .i64 now, .slice AV ah.length cV, .slice AS aW.length cS, .slice AO os.length cO, v16] :: aQ tLease 77 AL cL ls :: aQ tOrder 50 AD cD ds :: aQ tOrder 50 AO cO os :: fM tNode AN cN ns :: fM tChunk AK cK ks :: fM tInt AV cV ah :: fM tChunk AS cS aW :: fM fP AQ cQ needs :: F)) (hl : ls.length ≤ 64) (hd : ds.length ≤ 100000) (ho : os.length ≤ 1000) (hn : ns.length ≤ 1000) (hc : ks.length ≤ 1000) (hs : aW.length ≤ 1000) (hkk : ∀ x ∈ ks, x.av.length ≤ 1000) (hh : ∀ x ∈ aW, x.av.length ≤ 1000) (he : 0 ≤ bg ∧ bg ≤ 64 ∧ all ≤ 64 ∧ aJ ≤ 8) (hq : ∀ x ∈ needs, 0 ≤ x.Have ∧ x.Have ≤ 1000) (hnl : needs.length ≤ 100000) (hu : -1099511627776 ≤ now ∧ now ≤ 4398046511104 ∧ -1099511627776 ≤ aY ∧ aY ≤ 1099511627776) :
    bY Tryz.prog 40 #[.pointer (some ⟨g, 0, none⟩), .slice AQ needs.length cQ] w fun v w' => v = .tuple #[] ∧ ∃ QC QD Hy Hz, Hp b S w' (dG g 81 [v0, .slice QC (((iP (⟨ds, ns, ks, ah, aW, bg, all, aJ, now + aY⟩ : fF) needs (ls, os)).1).length) QD, .slice AD ds.length cD, .slice AN ns.length cN, .slice AK ks.length cK, v5, v6, .int .i64 bg, .int .i64 all, .int .i64 aJ, .int .i64 aY, v11, .int .i64 now, .slice AV ah.length cV, .slice AS aW.length cS, .slice Hy (((iP (⟨ds, ns, ks, ah, aW, bg, all, aJ, now + aY⟩ : fF) needs (ls, os)).2).length) Hz, v16] :: aQ tLease 77 QC QD ((iP (⟨ds, ns, ks, ah, aW, bg, all, aJ, now + aY⟩ : fF) needs (ls, os)).1) :: aQ tOrder 50 AD cD ds :: aQ tOrder 50 Hy Hz ((iP (⟨ds, ns, ks, ah, aW, bg, all, aJ, now + aY⟩ : fF) needs (ls, os)).2) :: fM tNode AN cN ns :: fM tChunk AK cK ks :: fM tInt AV cV ah :: fM tChunk AS cS aW :: fM fP AQ cQ needs :: F) := by
 refine WP.enter Tryz.func40 Y Tryz.ntmps40 Y <| rg ?_
 refine bx Y Y H0 fun g1 w1 K1 => ?_
 refine dn <| WP.sc ?_
 refine WP.seq (WP.lab (aA.norm ?_))
 refine rg <| mv Y <| ev (Ev.len Tryz.underlying82 Y) <| mv Y <| dn <| WP.block ?_
 have hq1 : (ls : List ALease) = (iP (⟨ds, ns, ks, ah, aW, bg, all, aJ, now + aY⟩ : fF) (needs.take 0) (ls, os)).1 := by rfl
 rw [hq1] at K1
 have hq2 : (os : List AOrder) = (iP (⟨ds, ns, ks, ah, aW, bg, all, aJ, now + aY⟩ : fF) (needs.take 0) (ls, os)).2 := by rfl
 rw [hq2] at K1
 refine WP.lp (fun mJ lJ wJ => ∃ (k : Nat) (A1 : an3) (c1 : Nat) (um : an3) (c15 : Nat), lJ = [(2, .pointer (some ⟨g1, 0, none⟩)), (16, .slice AQ needs.length cQ), (17, .int .i64 ((needs.length : Nat) : Int)), (18, .int .i64 ((k : Nat) : Int))] ∧ mJ = needs.length - k ∧ k ≤ needs.length ∧ ((iP (⟨ds, ns, ks, ah, aW, bg, all, aJ, now + aY⟩ : fF) (needs.take k) (ls, os)).2.length + ls.length = os.length + (iP (⟨ds, ns, ks, ah, aW, bg, all, aJ, now + aY⟩ : fF) (needs.take k) (ls, os)).1.length ∧ (iP (⟨ds, ns, ks, ah, aW, bg, all, aJ, now + aY⟩ : fF) (needs.take k) (ls, os)).1.length ≤ 64) ∧ Hp b S wJ (aQ tLease 77 A1 c1 ((iP (⟨ds, ns, ks, ah, aW, bg, all, aJ, now + aY⟩ : fF) (needs.take k) (ls, os)).1) :: aQ tOrder 50 um c15 ((iP (⟨ds, ns, ks, ah, aW, bg, all, aJ, now + aY⟩ : fF) (needs.take k) (ls, os)).2) :: dG g 81 [v0, .slice A1 (((iP (⟨ds, ns, ks, ah, aW, bg, all, aJ, now + aY⟩ : fF) (needs.take k) (ls, os)).1).length) c1, .slice AD ds.length cD, .slice AN ns.length cN, .slice AK ks.length cK, v5, v6, .int .i64 bg, .int .i64 all, .int .i64 aJ, .int .i64 aY, v11, .int .i64 now, .slice AV ah.length cV, .slice AS aW.length cS, .slice um (((iP (⟨ds, ns, ks, ah, aW, bg, all, aJ, now + aY⟩ : fF) (needs.take k) (ls, os)).2).length) c15, v16] :: dG g1 79 [.pointer (some ⟨g, 0, none⟩)] :: aQ tOrder 50 AD cD ds :: fM tNode AN cN ns :: fM tChunk AK cK ks :: fM tInt AV cV ah :: fM tChunk AS cS aW :: fM fP AQ cQ needs :: F)) ⟨0, AL, cL, AO, cO, Y, Y, Nat.zero_le _, by exact ⟨Nat.add_comm _ _ ▸ rfl, hl⟩, (((((K1.sel s3).sel s1).sel s2).sel s4).sel s4)⟩ rfl ?_
 rintro _ _ w2 ⟨k, A1, c1, um, c15, rfl, rfl, hk, hlo, K2⟩
 refine rg <| ev (Ev.lss Y Y) <| dn ?_
 refine WP.cond Y (fun hc19 => ?_) (fun hc19 => ?_)
 ·
  replace hc19 := of_decide_eq_true hc19
  refine WP.skip (aA.norm ?_)
  refine WP.seq <| WP.block <| rg ?_
  obtain ⟨x1, hx1⟩ := get_some (xs := needs) (i := k) (by omega)
  refine ev (Ev.index (i := k) Tryz.underlying82 iK Y Y Y (aC hx1) ((K2.s s9).some_ hx1)) <| ev (Ev.loadRow jW Y Y ((K2.s s9).dx hx1)) ?_
  refine al og Y K2 fun g2 w3 K3 => ?_
  refine iW Y Y Y iK K3 s0 Y Y fun w4 K4 => ?_
  refine dn ?_
  refine He K4 (fun _ K => K) (fun l0 rk lJ wJ => ∃ (iZ : Nat) (jw : an3) (jy : Nat), lJ = (6, .pointer (some ⟨iZ, 0, none⟩)) :: l0 ∧ Hp b S wJ (dG iZ 53 [.int .i64 ((aL ks x1.aB).ID), .int .i64 ((aL ks x1.aB).ay), .int .u32 ((aL ks x1.aB).Sum), .slice jw (((aL ks x1.aB).av).length) jy] :: fM tInt jw jy ((aL ks x1.aB).av) :: rk)) (fun hns H1 => ?_) ?_
  ·
   refine Tn 0 1 hns Y (fun _ hK => Ev.aj tY Y (hK.x s4) Y) H1 <| Tn 1 3 hns Y (fun _ _ => Ev.nilCheck Y) H1 <| Tn 2 7 hns Y (fun _ _ => Ev.field (q := ⟨g, 3, none⟩) uU Y Y) H1 ?_
   refine Tn 3 15 hns Y (fun _ _ => Ev.field (q := ⟨g, 4, none⟩) mg Y Y) H1 <| Tn 4 31 hns Y (fun _ hK => Ev.aj nM Y (hK.x s3) Y) H1 ?_
   refine Tn 5 63 hns Y (fun _ _ => Ev.field (q := ⟨g2, 0, none⟩) rP Y Y) H1 <| Tn 6 127 hns Y (fun _ hK => Ev.aj bf Y (hK.x s0) Y) H1 ?_
   refine Jn H1 (fun l0 rk lJ wJ => ∃ (g3 : Nat) (Jy : an3) (Jz : Nat), lJ = (6, .pointer (some ⟨g3, 0, none⟩)) :: (32, .bool (gG ks x1.aB)) :: l0 ∧ Hp b S wJ (dG g3 53 [.int .i64 ((aL ks x1.aB).ID), .int .i64 ((aL ks x1.aB).ay), .int .u32 ((aL ks x1.aB).Sum), .slice Jy (((aL ks x1.aB).av).length) Jz] :: fM tInt Jy Jz ((aL ks x1.aB).av) :: rk)) 1 8191 ?_ fun hS1 => ?_
   ·
    rintro _ Om ⟨g3, Jy, Jz, rfl, qb⟩
    have k6 := ((qb.rm s1).rm s0)
    refine Ta 13 16383 hns Y Y k6 ?_
    exact Dn ⟨g3, Jy, Jz, Y, qb⟩ Y
   refine O2 7 11 Y Y ?_ ?_
   ·
    refine WL.call Y Y Y HV (find_ok _ (H1.s s7) x1.aB (by omega) (fun x hx => by first | (have := hkk x hx; omega) | (have := hh x hx; omega))) rfl ?_
    rintro _ Le ⟨Dk, Dl, rfl, h12⟩
    have oH := H1.c1 h12
    have acN := (oH.s s0).aN
    have k7 := (oH.rm s0)
    refine WH.next k7 <| Tm 8 511 hns Y Y k7 <| Tn 9 1023 hns Y (fun _ _ => Ev.extract (vs := [.agg #[.int .i64 ((aL ks x1.aB).ID), .int .i64 ((aL ks x1.aB).ay), .int .u32 ((aL ks x1.aB).Sum), .slice Dk (((aL ks x1.aB).av).length) Dl], .bool (gG ks x1.aB)]) Y Y) k7 ?_
    refine Tn 10 2047 hns Y (fun _ _ => Ev.extract (vs := [.agg #[.int .i64 ((aL ks x1.aB).ID), .int .i64 ((aL ks x1.aB).ay), .int .u32 ((aL ks x1.aB).Sum), .slice Dk (((aL ks x1.aB).av).length) Dl], .bool (gG ks x1.aB)]) Y Y) k7 ?_
    refine O1 11 Y ?_
    refine al iI Y oH fun g5 RY sP => ?_
    have k8 := ((sP.rm s1).rm s0)
    refine WH.next k8 <| O1 12 Y ?_
    refine iW Y Y Y gu sP s0 Y Y fun RZ nO => ?_
    have k9 := ((nO.rm s1).rm s0)
    exact Kj hS1 k9 ⟨g5, Dk, Dl, Y, nO⟩ Y
   ·
    refine al iI Y H1 fun g6 TM vW => ?_
    have k10 := (vW.rm s0)
    refine WH.next k10 <| O1 7 Y <| WL.call Y Y Y HV (find_ok _ (vW.s s8) x1.aB (by omega) (fun x hx => by first | (have := hkk x hx; omega) | (have := hh x hx; omega))) rfl ?_
    rintro _ w16 ⟨uZ, u6, rfl, h16⟩
    have tQ := vW.c1 h16
    have JA := (tQ.s s0).aN
    have k11 := ((tQ.rm s1).rm s0)
    refine WH.next k11 <| Tm 8 2559 hns Y Y k11 <| Tn 9 3071 hns Y (fun _ _ => Ev.extract (vs := [.agg #[.int .i64 ((aL ks x1.aB).ID), .int .i64 ((aL ks x1.aB).ay), .int .u32 ((aL ks x1.aB).Sum), .slice uZ (((aL ks x1.aB).av).length) u6], .bool (gG ks x1.aB)]) Y Y) k11 ?_
    refine Tn 10 4095 hns Y (fun _ _ => Ev.extract (vs := [.agg #[.int .i64 ((aL ks x1.aB).ID), .int .i64 ((aL ks x1.aB).ay), .int .u32 ((aL ks x1.aB).Sum), .slice uZ (((aL ks x1.aB).av).length) u6], .bool (gG ks x1.aB)]) Y Y) k11 ?_
    refine O1 12 Y ?_
    refine iW Y Y Y gu tQ s1 Y Y fun Vh qp => ?_
    have k12 := ((qp.rm s1).rm s0)
    exact Kj hS1 k12 ⟨g6, uZ, u6, Y, qp⟩ Y
  rintro _ Yb ⟨iZ, jw, jy, rfl, vX⟩
  refine He vX (fun _ K => K) (fun l0 rk lJ wJ => ∃ (Cb : Nat) (o9 : an3) (cj2 : Nat), lJ = (8, .pointer (some ⟨Cb, 0, none⟩)) :: l0 ∧ Hp b S wJ (dG Cb 53 [.int .i64 ((aL aW x1.aB).ID), .int .i64 ((aL aW x1.aB).ay), .int .u32 ((aL aW x1.aB).Sum), .slice o9 (((aL aW x1.aB).av).length) cj2] :: aQ tInt 3 o9 cj2 ((aL aW x1.aB).av) :: rk)) (fun hns H2 => ?_) ?_
  ·
   refine Tn 0 1 hns Y (fun _ hK => Ev.aj tY Y (hK.x s6) Y) H2 <| Tn 1 3 hns Y (fun _ _ => Ev.nilCheck Y) H2 <| Tn 2 7 hns Y (fun _ _ => Ev.field (q := ⟨g, 14, none⟩) zQ Y Y) H2 ?_
   refine Tn 3 15 hns Y (fun _ hK => Ev.aj nM Y (hK.x s5) Y) H2 <| Tn 4 31 hns Y (fun _ _ => Ev.field (q := ⟨g2, 0, none⟩) rP Y Y) H2 ?_
   refine Tn 5 63 hns Y (fun _ hK => Ev.aj bf Y (hK.x s2) Y) H2 ?_
   refine Jn H2 (fun l0 rk lJ wJ => ∃ (g7 : Nat) (Dm : an3) (Dp : Nat), lJ = (8, .pointer (some ⟨g7, 0, none⟩)) :: (42, .bool (gG aW x1.aB)) :: l0 ∧ Hp b S wJ (dG g7 53 [.int .i64 ((aL aW x1.aB).ID), .int .i64 ((aL aW x1.aB).ay), .int .u32 ((aL aW x1.aB).Sum), .slice Dm (((aL aW x1.aB).av).length) Dp] :: aQ tInt 3 Dm Dp ((aL aW x1.aB).av) :: rk)) 1 4095 ?_ fun hS2 => ?_
   ·
    rintro _ w25 ⟨g7, Dm, Dp, rfl, yC⟩
    have k18 := ((yC.rm s1).rm s0)
    refine Ta 12 8191 hns Y Y k18 ?_
    exact Dn ⟨g7, Dm, Dp, Y, yC⟩ Y
   refine O2 6 10 Y Y ?_ ?_
   ·
    refine WL.call Y Y Y HV (MI _ (H2.s s11).any x1.aB (by omega) (fun x hx => by first | (have := hkk x hx; omega) | (have := hh x hx; omega))) rfl ?_
    rintro _ w26 ⟨uW, uX, rfl, h26⟩
    have y8 := H2.f1 h26
    have Wh := (y8.o s0).aN
    have k19 := (y8.rm s0)
    refine WH.next k19 <| Tm 7 255 hns Y Y k19 <| Tn 8 511 hns Y (fun _ _ => Ev.extract (vs := [.agg #[.int .i64 ((aL aW x1.aB).ID), .int .i64 ((aL aW x1.aB).ay), .int .u32 ((aL aW x1.aB).Sum), .slice uW (((aL aW x1.aB).av).length) uX], .bool (gG aW x1.aB)]) Y Y) k19 ?_
    refine Tn 9 1023 hns Y (fun _ _ => Ev.extract (vs := [.agg #[.int .i64 ((aL aW x1.aB).ID), .int .i64 ((aL aW x1.aB).ay), .int .u32 ((aL aW x1.aB).Sum), .slice uW (((aL aW x1.aB).av).length) uX], .bool (gG aW x1.aB)]) Y Y) k19 ?_
    refine O1 10 Y ?_
    refine al iI Y y8 fun g9 w27 zA => ?_
    have k20 := ((zA.rm s1).rm s0)
    refine WH.next k20 <| O1 11 Y ?_
    refine iW Y Y Y gu zA s0 Y Y fun ZM yP => ?_
    have k21 := ((yP.rm s1).rm s0)
    exact Kj hS2 k21 ⟨g9, uW, uX, Y, yP⟩ Y
   ·
    refine al iI Y H2 fun g10 ZN Bd => ?_
    have k22 := (Bd.rm s0)
    refine WH.next k22 <| O1 6 Y <| WL.call Y Y Y HV (MI _ (Bd.s s12).any x1.aB (by omega) (fun x hx => by first | (have := hkk x hx; omega) | (have := hh x hx; omega))) rfl ?_
    rintro _ w30 ⟨JB, JC, rfl, h30⟩
    have Ah := Bd.f1 h30
    have acO := (Ah.o s0).aN
    have k23 := ((Ah.rm s1).rm s0)
    refine WH.next k23 <| Tm 7 1279 hns Y Y k23 <| Tn 8 1535 hns Y (fun _ _ => Ev.extract (vs := [.agg #[.int .i64 ((aL aW x1.aB).ID), .int .i64 ((aL aW x1.aB).ay), .int .u32 ((aL aW x1.aB).Sum), .slice JB (((aL aW x1.aB).av).length) JC], .bool (gG aW x1.aB)]) Y Y) k23 ?_
    refine Tn 9 2047 hns Y (fun _ _ => Ev.extract (vs := [.agg #[.int .i64 ((aL aW x1.aB).ID), .int .i64 ((aL aW x1.aB).ay), .int .u32 ((aL aW x1.aB).Sum), .slice JB (((aL aW x1.aB).av).length) JC], .bool (gG aW x1.aB)]) Y Y) k23 ?_
    refine O1 11 Y ?_
    refine iW Y Y Y gu Ah s1 Y Y fun w31 F4 => ?_
    have k24 := ((F4.rm s1).rm s0)
    exact Kj hS2 k24 ⟨g10, JB, JC, Y, F4⟩ Y
  rintro _ w32 ⟨Cb, o9, cj2, rfl, FM⟩
  have aiZ := xV hkk x1.aB
  have ai0 := xV hh x1.aB
  have hqx := hq _ (bV hx1)
  refine rg <| ev (Ev.field (q := ⟨Cb, 3, none⟩) fT Y Y) <| ev (Ev.aj gK Y (FM.x s0) Y) <| ev (Ev.func Y) <| WL.call Y Y Y GU (jG (kd := [.pointer (some ⟨g1, 0, none⟩)]) (FM.sel s1) afx (fun x9 => !(ah.contains x9)) (fun w9 ys x9 YK K9 => (Wn (S0 := Any) w9 x9 (K9.x s8) (K9.x s7) (K9.s s12).any).mono (by rintro _ w8 ⟨rfl, K8⟩; exact ⟨rfl, K8.ext⟩)) (by omega)) rfl ?_
  rintro _ w33 ⟨rfl, Oo⟩
  refine aR Y <| dn <| WP.block <| WP.lp (fun mJ lJ wJ => ∃ (A1 : an3) (c1 : Nat) (um : an3) (c15 : Nat) (l : List ALease) (o : List AOrder) (f : Nat), lJ = [(2, .pointer (some ⟨g1, 0, none⟩)), (5, .pointer (some ⟨g2, 0, none⟩)), (6, .pointer (some ⟨iZ, 0, none⟩)), (10, .slice o9 ((((aL aW x1.aB).av).filter fun x9 => !(!(ah.contains x9))).length) cj2), (16, .slice AQ needs.length cQ), (17, .int .i64 ((needs.length : Nat) : Int)), (18, .int .i64 ((k : Nat) : Int))] ∧ mJ = f + 1 ∧ (o.length + ls.length = os.length + l.length ∧ l.length ≤ 64) ∧ (EY (⟨ds, ns, ks, ah, aW, bg, all, aJ, now + aY⟩ : fF) (aL ks x1.aB) (aL aW x1.aB) x1.Have f (l, o) = uY (⟨ds, ns, ks, ah, aW, bg, all, aJ, now + aY⟩ : fF) (iP (⟨ds, ns, ks, ah, aW, bg, all, aJ, now + aY⟩ : fF) (needs.take k) (ls, os)) x1) ∧ (aJ - x1.Have - ((dO l (aL ks x1.aB).ID).length : Int) < (f : Int)) ∧ Hp b S wJ (aQ tLease 77 A1 c1 l :: aQ tOrder 50 um c15 o :: dG g 81 [v0, .slice A1 l.length c1, .slice AD ds.length cD, .slice AN ns.length cN, .slice AK ks.length cK, v5, v6, .int .i64 bg, .int .i64 all, .int .i64 aJ, .int .i64 aY, v11, .int .i64 now, .slice AV ah.length cV, .slice AS aW.length cS, .slice um o.length c15, v16] :: aQ tInt 3 o9 cj2 (((aL aW x1.aB).av).filter fun x9 => !(!(ah.contains x9))) :: dG Cb 53 [.int .i64 ((aL aW x1.aB).ID), .int .i64 ((aL aW x1.aB).ay), .int .u32 ((aL aW x1.aB).Sum), .slice o9 (((aL aW x1.aB).av).length) cj2] :: dG iZ 53 [.int .i64 ((aL ks x1.aB).ID), .int .i64 ((aL ks x1.aB).ay), .int .u32 ((aL ks x1.aB).Sum), .slice jw (((aL ks x1.aB).av).length) jy] :: fM tInt jw jy ((aL ks x1.aB).av) :: dG g2 90 [.int .i64 x1.aB, .int .i64 x1.Have, .int .i64 x1.Live] :: dG g1 79 [.pointer (some ⟨g, 0, none⟩)] :: aQ tOrder 50 AD cD ds :: fM tNode AN cN ns :: fM tChunk AK cK ks :: fM tInt AV cV ah :: fM tChunk AS cS aW :: fM fP AQ cQ needs :: F)) ⟨A1, c1, um, c15, ((iP (⟨ds, ns, ks, ah, aW, bg, all, aJ, now + aY⟩ : fF) (needs.take k) (ls, os)).1), ((iP (⟨ds, ns, ks, ah, aW, bg, all, aJ, now + aY⟩ : fF) (needs.take k) (ls, os)).2), 100, Y, Y, by exact hlo, by rfl, by have := hq _ (bV hx1); omega, ((((((((Oo.sel s4).sel s4).sel s4).sel s4).sel s4).sel s7).sel s7).sel s7)⟩ rfl ?_
  rintro _ _ w34 ⟨A1, c1, um, c15, l, o, f, rfl, rfl, hlo2, hrep, hff, Oq⟩
  refine WP.seq ?_
  have hcl := wS l (aL ks x1.aB).ID
  refine He Oq (fun _ K => K) (fun l0 rk lJ wJ => lJ = (60, .bool (decide (x1.Have + (((dO l ((aL ks x1.aB).ID)).length : Nat) : Int) < aJ))) :: l0 ∧ Hp b S wJ rk) (fun hns H3 => ?_) ?_
  ·
   refine Tn 0 1 hns Y (fun _ _ => Ev.field (q := ⟨g2, 1, none⟩) oW Y Y) H3 <| Tn 1 3 hns Y (fun _ hK => Ev.aj bf Y (hK.x s7) Y) H3 <| Tn 2 7 hns Y (fun _ hK => Ev.aj tY Y (hK.x s8) Y) H3 ?_
   refine Tn 3 15 hns Y (fun _ _ => Ev.field (q := ⟨iZ, 0, none⟩) gI Y Y) H3 <| Tn 4 31 hns Y (fun _ hK => Ev.aj bf Y (hK.x s5) Y) H3 ?_
   refine Tn 8 287 hns Y (fun _ hK => Ev.aj tY Y (hK.x s8) Y) H3 <| Tn 9 799 hns Y (fun _ _ => Ev.nilCheck Y) H3 <| Tn 10 1823 hns Y (fun _ _ => Ev.field (q := ⟨g, 6, none⟩) rW Y Y) H3 ?_
   refine Tn 11 3871 hns Y (fun _ _ => Ev.field (q := ⟨g, 9, none⟩) rQ Y Y) H3 <| Tn 12 7967 hns Y (fun _ hK => Ev.aj bf Y (hK.x s2) Y) H3 ?_
   refine O1 5 Y <| WL.call Y Y Y Wi (Bz (((H3.sel s1).sel s1).sel s2) (by omega) ((aL ks x1.aB).ID)) Y ?_
   rintro _ w35 ⟨Ac1, cc1, rfl, LZ⟩
   have k25 := ((((LZ.rm s0).sel s0).sel s2).sel s2)
   refine WH.next k25 <| Tn 6 8063 hns Y (fun _ _ => Ev.len Tryz.underlying51 Y) k25 <| Tn 7 8191 hns Y (fun _ _ => Ev.add Y Y (eX.mk (by omega) (by omega))) k25 ?_
   refine Tn 13 16383 hns Y (fun _ _ => Ev.lss Y Y) k25 ?_
   exact Dn ⟨Y, ((((LZ.rm s0).sel s0).sel s2).sel s2)⟩ Y
  rintro _ w36 ⟨rfl, L6⟩
  refine WP.aG Y (fun JD => ?_) (fun JD => ?_)
  ·
   replace JD := of_decide_eq_true JD
   refine WP.skip (aA.norm ?_)
   refine WP.block ?_
   have hgl := Hq ds (aL ks x1.aB).ID
   refine He L6 (fun _ K => K) (fun l0 rk lJ wJ => ∃ (vL : an3) (vM : Nat), lJ = (11, .slice vL (((([((aL ks x1.aB).av), (dO l ((aL ks x1.aB).ID)), (dI ds ((aL ks x1.aB).ID))] : List (List Int))).flatten).length) vM) :: l0 ∧ Hp b S wJ (aQ tInt 3 vL vM ((([((aL ks x1.aB).av), (dO l ((aL ks x1.aB).ID)), (dI ds ((aL ks x1.aB).ID))] : List (List Int))).flatten) :: rk)) (fun hns H4 => ?_) ?_
   ·
    refine Tn 0 1 hns Y (fun _ _ => Ev.field (q := ⟨iZ, 3, none⟩) fT Y Y) H4 <| Tn 1 3 hns Y (fun _ hK => Ev.aj gK Y (hK.x s5) Y) H4 ?_
    refine Tn 2 7 hns Y (fun _ hK => Ev.aj tY Y (hK.x s8) Y) H4 <| Tn 3 15 hns Y (fun _ _ => Ev.field (q := ⟨iZ, 0, none⟩) gI Y Y) H4 ?_
    refine Tn 4 31 hns Y (fun _ hK => Ev.aj bf Y (hK.x s5) Y) H4 <| Tn 6 95 hns Y (fun _ hK => Ev.aj tY Y (hK.x s8) Y) H4 <| Tn 7 223 hns Y (fun _ _ => Ev.nilCheck Y) H4 ?_
    refine Tn 8 479 hns Y (fun _ _ => Ev.field (q := ⟨g, 0, none⟩) lC Y Y) H4 <| Tn 9 991 hns Y (fun _ _ => Ev.field (q := ⟨g, 2, none⟩) jc Y Y) H4 ?_
    refine Tn 10 2015 hns Y (fun _ hK => Ev.aj gV Y (hK.x s2) Y) H4 <| Tn 11 4063 hns Y (fun _ _ => Ev.field (q := ⟨iZ, 0, none⟩) gI Y Y) H4 ?_
    refine Tn 12 8159 hns Y (fun _ hK => Ev.aj bf Y (hK.x s5) Y) H4 <| O1 5 Y <| WL.call Y Y Y Wi (Bz (((H4.sel s1).sel s1).sel s2) (by omega) ((aL ks x1.aB).ID)) Y ?_
    rintro _ w37 ⟨Ac2, cc2, rfl, L8⟩
    have k26 := ((((L8.rm s0).sel s0).sel s2).sel s2)
    refine WH.next k26 <| O1 13 Y <| WL.call Y Y Y Z4 (MC _ (L8.o s10) ((aL ks x1.aB).ID) (by omega)) Y ?_
    rintro _ w38 ⟨aan, aao, rfl, h38⟩
    have TN := L8.f1 h38
    have ai1 := (TN.o s0).aN
    have k27 := (((((TN.rm s1).rm s0).sel s0).sel s2).sel s2)
    refine WH.next k27 <| O1 14 Y ?_
    have H5 := TN.fz s1
    have H6 := H5.fz s1
    refine X7 (τ := (Ty.list tInt)) (xs := ([((aL ks x1.aB).av), (dO l ((aL ks x1.aB).ID)), (dI ds ((aL ks x1.aB).ID))] : List (List Int))) (vs := [(0, .slice jw (((aL ks x1.aB).av).length) jy), (1, .slice Ac2 ((dO l ((aL ks x1.aB).ID)).length) cc2), (2, .slice aan ((dI ds ((aL ks x1.aB).ID)).length) aao)]) (css := [[.slice jw (((aL ks x1.aB).av).length) jy], [.slice Ac2 ((dO l ((aL ks x1.aB).ID)).length) cc2], [.slice aan ((dI ds ((aL ks x1.aB).ID)).length) aao]]) Y (by intro _; apply Jw) rfl rfl H6 (fun _ e => ⟨⟨_, _, rfl, (H6.s s8).ext e⟩, ⟨_, _, rfl, (H6.s s1).ext e⟩, ⟨_, _, rfl, (H6.s s0).ext e⟩, trivial⟩) fun g11 w39 K39 => ?_
    have k28 := ((((((K39.rm s2).rm s1).rm s0).sel s0).sel s2).sel s2)
    refine WH.next k28 <| O1 15 Y <| WL.call Y Y Y afy (Js _ (K39.o s0) (by simp only [List.flatten_cons, List.flatten_nil, List.append_nil, List.length_append]; omega)) rfl ?_
    rintro _ w40 ⟨afC, afD, rfl, h40⟩
    have K40 := K39.f1 h40
    have ai2 := (K40.o s0).aN
    have k29 := (((((((K40.rm s3).rm s2).rm s1).rm s0).sel s0).sel s2).sel s2)
    refine WH.next k29 <| Ta 16 131071 hns Y Y k29 ?_
    exact Dn ⟨afC, afD, Y, (((((((K40.rm s3).rm s2).rm s1).sel s1).sel s3).sel s3).sel s3)⟩ Y
   rintro _ w41 ⟨vL, vM, rfl, Y6⟩
   refine He Y6 (fun _ K => K) (fun l0 rk lJ wJ => lJ = (12, .int .i64 (vR (lG ns ah (aO ks ns l) ((([((aL ks x1.aB).av), (dO l ((aL ks x1.aB).ID)), (dI ds ((aL ks x1.aB).ID))] : List (List Int))).flatten) ns))) :: (13, .bool ((lG ns ah (aO ks ns l) ((([((aL ks x1.aB).av), (dO l ((aL ks x1.aB).ID)), (dI ds ((aL ks x1.aB).ID))] : List (List Int))).flatten) ns).isSome)) :: l0 ∧ Hp b S wJ rk) (fun hns H7 => ?_) ?_
   ·
    refine Tn 0 1 hns Y (fun _ hK => Ev.aj tY Y (hK.x s9) Y) H7 <| Tn 1 3 hns Y (fun _ _ => Ev.nilCheck Y) H7 <| Tn 2 7 hns Y (fun _ _ => Ev.field (q := ⟨g, 3, none⟩) uU Y Y) H7 ?_
    refine Tn 3 15 hns Y (fun _ _ => Ev.field (q := ⟨g, 3, none⟩) oq Y Y) H7 <| Tn 4 31 hns Y (fun _ hK => Ev.aj lS Y (hK.x s3) Y) H7 ?_
    refine Tn 5 63 hns Y (fun _ hK => Ev.aj tY Y (hK.x s9) Y) H7 <| Tn 6 127 hns Y (fun _ _ => Ev.nilCheck Y) H7 <| Tn 7 255 hns Y (fun _ _ => Ev.field (q := ⟨g, 13, none⟩) xU Y Y) H7 ?_
    refine Tn 8 511 hns Y (fun _ hK => Ev.aj gK Y (hK.x s3) Y) H7 <| Tn 9 1023 hns Y (fun _ hK => Ev.aj tY Y (hK.x s9) Y) H7 <| Tm 11 3071 hns Y Y H7 ?_
    refine O1 10 Y <| WL.call Y Y Y Z8 (Hu (((((((((((((H7.sel s10).sel s10).sel s10).sel s10).sel s10).sel s10).sel s10).sel s9).sel s8).sel s12).sel s12).sel s11).sel s12) (by omega) (by omega) (by omega)) Y ?_
    rintro _ w42 ⟨Ad1, cd1, rfl, SL⟩
    have k30 := ((((((((((((((SL.rm s0).sel s3).sel s3).sel s12).sel s12).sel s12).sel s12).sel s12).sel s12).sel s12).sel s9).sel s12).sel s11).sel s12)
    refine WH.next k30 <| O1 12 Y ?_
    refine C0 SL Y Y Y afz (Sd _ (SL.s s3).any (SL.s NM).any (SL.o s0) (SL.o s5) (by omega) (fun x hx => ((xR _ _ _).1 x hx).1)) fun w43 Yc => ?_
    have k31 := ((((((((((((((Yc.rm s0).sel s3).sel s3).sel s12).sel s12).sel s12).sel s12).sel s12).sel s12).sel s12).sel s9).sel s12).sel s11).sel s12)
    refine WH.next k31 <| Tm 13 16383 hns Y Y k31 <| Tn 14 32767 hns Y (fun _ _ => Ev.extract (vs := [.int .i64 (vR (lG ns ah (aO ks ns l) ((([((aL ks x1.aB).av), (dO l ((aL ks x1.aB).ID)), (dI ds ((aL ks x1.aB).ID))] : List (List Int))).flatten) ns)), .bool ((lG ns ah (aO ks ns l) ((([((aL ks x1.aB).av), (dO l ((aL ks x1.aB).ID)), (dI ds ((aL ks x1.aB).ID))] : List (List Int))).flatten) ns).isSome)]) Y Y) k31 ?_
    refine Tn 15 65535 hns Y (fun _ _ => Ev.extract (vs := [.int .i64 (vR (lG ns ah (aO ks ns l) ((([((aL ks x1.aB).av), (dO l ((aL ks x1.aB).ID)), (dI ds ((aL ks x1.aB).ID))] : List (List Int))).flatten) ns)), .bool ((lG ns ah (aO ks ns l) ((([((aL ks x1.aB).av), (dO l ((aL ks x1.aB).ID)), (dI ds ((aL ks x1.aB).ID))] : List (List Int))).flatten) ns).isSome)]) Y Y) k31 ?_
    refine Ta 16 131071 hns Y Y k31 <| Ta 17 262143 hns Y Y k31 ?_
    exact Dn ⟨Y, ((((((((((((((Yc.rm s0).sel s3).sel s3).sel s12).sel s12).sel s12).sel s12).sel s12).sel s12).sel s12).sel s9).sel s12).sel s11).sel s12)⟩ Y
   rintro _ w44 ⟨rfl, NI⟩
   refine WP.draw (by kernel_rfl) (by kernel_rfl) <| WQ.ev (Ev.aj tY Y (NI.x s9) Y) Y <| WQ.ev (Ev.nilCheck Y) Y <| WQ.ev (Ev.field (q := ⟨g, 0, none⟩) lC Y Y) Y ?_
   refine WQ.ev (Ev.field (q := ⟨g, 1, none⟩) iV Y Y) Y <| WQ.ev (Ev.aj oo Y (NI.x s3) Y) Y <| WQ.ev (Ev.move Y) Y <| WQ.ev (Ev.aj tY Y (NI.x s9) Y) Y ?_
   refine WQ.ev (Ev.nilCheck Y) Y <| WQ.ev (Ev.field (q := ⟨g, 6, none⟩) rW Y Y) Y <| WQ.ev (Ev.field (q := ⟨g, 7, none⟩) xQ Y Y) Y <| WQ.ev (Ev.aj bf Y (NI.x s3) Y) Y ?_
   refine WQ.call (v := .tuple #[.int .i64 (lV l (((aL aW x1.aB).av).filter fun x9 => !(!(ah.contains x9))) bg), .bool (lq l (((aL aW x1.aB).av).filter fun x9 => !(!(ah.contains x9))) bg)]) Y Y Y afA (fun wq eq => (R5 wq ((NI.o s1).ext eq) ((NI.o s4).ext eq) bg (by omega) (by omega) (by omega)).mono (by rintro _ _ ⟨rfl, hq2⟩; exact ⟨rfl, hq2.ext⟩)) rfl ?_
   refine WQ.ev (Ev.move Y) Y <| WQ.ev (Ev.extract (vs := [.int .i64 (lV l (((aL aW x1.aB).av).filter fun x9 => !(!(ah.contains x9))) bg), .bool (lq l (((aL aW x1.aB).av).filter fun x9 => !(!(ah.contains x9))) bg)]) Y Y) Y ?_
   refine WQ.ev (Ev.extract (vs := [.int .i64 (lV l (((aL aW x1.aB).av).filter fun x9 => !(!(ah.contains x9))) bg), .bool (lq l (((aL aW x1.aB).av).filter fun x9 => !(!(ah.contains x9))) bg)]) Y Y) Y ?_
   refine WQ.ev (Ev.assign Y) Y <| WQ.ev (Ev.assign Y) Y ?_
   refine WQ.done fun w45 e45 => ?_
   have Dj := NI.grow e45
   refine rg <| mv Y <| ev (Ev.not Y) <| mv Y ?_
   cases ML : (!((lG ns ah (aO ks ns l) ((([((aL ks x1.aB).av), (dO l ((aL ks x1.aB).ID)), (dI ds ((aL ks x1.aB).ID))] : List (List Int))).flatten) ns).isSome)) with
   | true =>
    refine WL.pass Y Y Y <| WL.pass Y Y Y <| ev (Ev.bq Y Y) <| mv Y <| WL.pass Y Y Y <| WL.pass Y Y Y <| WL.pass Y Y Y <| WL.pass Y Y Y <| WL.pass Y Y Y <| WL.pass Y Y Y <| ev (Ev.bq Y Y) <| dn ?_
    refine WP.aG Y (fun _h => ?_) (fun _h => absurd _h (by decide))
    refine WP.exit (aA.sj Y (aA.aF (aA.sj Y (aA.bS (aA.norm ?_)))))
    have hnx : (iP (⟨ds, ns, ks, ah, aW, bg, all, aJ, now + aY⟩ : fF) (needs.take (k + 1)) (ls, os)) = (l, o) := by rw [oP hx1, ← hrep]; exact oO (x := (⟨ds, ns, ks, ah, aW, bg, all, aJ, now + aY⟩ : fF)) (by first | (rintro ⟨hg1, hg⟩; exact absurd hg1 JD) | (rintro ⟨_, hg⟩; first | (rw [show mZ (⟨ds, ns, ks, ah, aW, bg, all, aJ, now + aY⟩ : fF) (aL ks x1.aB) (aL aW x1.aB) l = false from Jt ML] at hg; cases hg) | (rw [show mZ (⟨ds, ns, ks, ah, aW, bg, all, aJ, now + aY⟩ : fF) (aL ks x1.aB) (aL aW x1.aB) l = false from Ju MN] at hg; cases hg) | (rw [show mZ (⟨ds, ns, ks, ah, aW, bg, all, aJ, now + aY⟩ : fF) (aL ks x1.aB) (aL aW x1.aB) l = false from Jv (rY rZ)] at hg; cases hg))) f
    refine eP <| ev (Ev.add Y Y (eX.mk (by omega) (by omega))) <| mv Y <| eT ?_
    have hq3 : (l : List ALease) = (iP (⟨ds, ns, ks, ah, aW, bg, all, aJ, now + aY⟩ : fF) (needs.take (k + 1)) (ls, os)).1 := by first | (rw [hnx]; done) | (rw [hnx]; exact (wV (rY rZ)).1)
    rw [hq3] at Dj
    have hq4 : (o : List AOrder) = (iP (⟨ds, ns, ks, ah, aW, bg, all, aJ, now + aY⟩ : fF) (needs.take (k + 1)) (ls, os)).2 := by first | (rw [hnx]; done) | (rw [hnx]; exact (wV (rY rZ)).2 _)
    rw [hq4] at Dj
    exact aA.ag ⟨(k + 1), A1, c1, um, c15, Y, Y, by omega, by rw [hnx]; exact hlo2, ((((((Dj.rm s8).rm s7).rm s6).rm s5).rm s4).rm s0)⟩ rfl (by omega)
   | false =>
    refine WL.bF Y (Ev.move Y) Y <| WL.bF Y (Ev.not Y) Y <| ev (Ev.bn Y Y) <| mv Y ?_
    cases MN : (!(lq l (((aL aW x1.aB).av).filter fun x9 => !(!(ah.contains x9))) bg)) with
    | true =>
     refine WL.pass Y Y Y <| WL.pass Y Y Y <| WL.pass Y Y Y <| WL.pass Y Y Y <| WL.pass Y Y Y <| WL.pass Y Y Y <| ev (Ev.bq Y Y) <| dn ?_
     refine WP.aG Y (fun _h => ?_) (fun _h => absurd _h (by decide))
     refine WP.exit (aA.sj Y (aA.aF (aA.sj Y (aA.bS (aA.norm ?_)))))
     have hnx : (iP (⟨ds, ns, ks, ah, aW, bg, all, aJ, now + aY⟩ : fF) (needs.take (k + 1)) (ls, os)) = (l, o) := by rw [oP hx1, ← hrep]; exact oO (x := (⟨ds, ns, ks, ah, aW, bg, all, aJ, now + aY⟩ : fF)) (by first | (rintro ⟨hg1, hg⟩; exact absurd hg1 JD) | (rintro ⟨_, hg⟩; first | (rw [show mZ (⟨ds, ns, ks, ah, aW, bg, all, aJ, now + aY⟩ : fF) (aL ks x1.aB) (aL aW x1.aB) l = false from Jt ML] at hg; cases hg) | (rw [show mZ (⟨ds, ns, ks, ah, aW, bg, all, aJ, now + aY⟩ : fF) (aL ks x1.aB) (aL aW x1.aB) l = false from Ju MN] at hg; cases hg) | (rw [show mZ (⟨ds, ns, ks, ah, aW, bg, all, aJ, now + aY⟩ : fF) (aL ks x1.aB) (aL aW x1.aB) l = false from Jv (rY rZ)] at hg; cases hg))) f
     refine eP <| ev (Ev.add Y Y (eX.mk (by omega) (by omega))) <| mv Y <| eT ?_
     have kP : (l : List ALease) = (iP (⟨ds, ns, ks, ah, aW, bg, all, aJ, now + aY⟩ : fF) (needs.take (k + 1)) (ls, os)).1 := by first | (rw [hnx]; done) | (rw [hnx]; exact (wV (rY rZ)).1)
     rw [kP] at Dj
     have ny : (o : List AOrder) = (iP (⟨ds, ns, ks, ah, aW, bg, all, aJ, now + aY⟩ : fF) (needs.take (k + 1)) (ls, os)).2 := by first | (rw [hnx]; done) | (rw [hnx]; exact (wV (rY rZ)).2 _)
     rw [ny] at Dj
     exact aA.ag ⟨(k + 1), A1, c1, um, c15, Y, Y, by omega, by rw [hnx]; exact hlo2, ((((((Dj.rm s8).rm s7).rm s6).rm s5).rm s4).rm s0)⟩ rfl (by omega)
    | false =>
     refine WL.bF Y (Ev.aj tY Y (Dj.x s9) Y) Y <| WL.bF Y (Ev.bX gQ Y Y (Dj.x s6)) Y <| WL.bF Y (Ev.move Y) Y <| WL.bF Y (Ev.move Y) Y ?_
     refine WL.jd Y Y Y Y Z7 (EW ((((Dj.sel s0).sel s2).sel s2).sel s3) (aL ks x1.aB) (lV l (((aL aW x1.aB).av).filter fun x9 => !(!(ah.contains x9))) bg) (vR (lG ns ah (aO ks ns l) ((([((aL ks x1.aB).av), (dO l ((aL ks x1.aB).ID)), (dI ds ((aL ks x1.aB).ID))] : List (List Int))).flatten) ns)) (by omega) (by omega) (by omega)) Y ?_
     rintro _ w46 ⟨rfl, Jq, Jr, OV, OW, Yd⟩
     refine WL.bF Y (Ev.not Y) Y <| ev (Ev.bn Y Y) <| dn ?_
     refine WP.aG Y (fun rZ => ?_) (fun rZ => ?_)
     ·
      refine WP.exit (aA.sj Y (aA.aF (aA.sj Y (aA.bS (aA.norm ?_)))))
      have hnx : (iP (⟨ds, ns, ks, ah, aW, bg, all, aJ, now + aY⟩ : fF) (needs.take (k + 1)) (ls, os)) = (l, o) := by rw [oP hx1, ← hrep]; exact oO (x := (⟨ds, ns, ks, ah, aW, bg, all, aJ, now + aY⟩ : fF)) (by first | (rintro ⟨hg1, hg⟩; exact absurd hg1 JD) | (rintro ⟨_, hg⟩; first | (rw [show mZ (⟨ds, ns, ks, ah, aW, bg, all, aJ, now + aY⟩ : fF) (aL ks x1.aB) (aL aW x1.aB) l = false from Jt ML] at hg; cases hg) | (rw [show mZ (⟨ds, ns, ks, ah, aW, bg, all, aJ, now + aY⟩ : fF) (aL ks x1.aB) (aL aW x1.aB) l = false from Ju MN] at hg; cases hg) | (rw [show mZ (⟨ds, ns, ks, ah, aW, bg, all, aJ, now + aY⟩ : fF) (aL ks x1.aB) (aL aW x1.aB) l = false from Jv (rY rZ)] at hg; cases hg))) f
      refine eP <| ev (Ev.add Y Y (eX.mk (by omega) (by omega))) <| mv Y <| eT ?_
      have kT : ((kG l bg all (aL ks x1.aB) (lV l (((aL aW x1.aB).av).filter fun x9 => !(!(ah.contains x9))) bg) (vR (lG ns ah (aO ks ns l) ((([((aL ks x1.aB).av), (dO l ((aL ks x1.aB).ID)), (dI ds ((aL ks x1.aB).ID))] : List (List Int))).flatten) ns)) (now + aY)) : List ALease) = (iP (⟨ds, ns, ks, ah, aW, bg, all, aJ, now + aY⟩ : fF) (needs.take (k + 1)) (ls, os)).1 := by first | (rw [hnx]; done) | (rw [hnx]; exact (wV (rY rZ)).1)
      rw [kT] at Yd
      have hq8 : ((mY l o bg all (aL ks x1.aB) (lV l (((aL aW x1.aB).av).filter fun x9 => !(!(ah.contains x9))) bg) (vR (lG ns ah (aO ks ns l) ((([((aL ks x1.aB).av), (dO l ((aL ks x1.aB).ID)), (dI ds ((aL ks x1.aB).ID))] : List (List Int))).flatten) ns)) (now + aY)) : List AOrder) = (iP (⟨ds, ns, ks, ah, aW, bg, all, aJ, now + aY⟩ : fF) (needs.take (k + 1)) (ls, os)).2 := by first | (rw [hnx]; done) | (rw [hnx]; exact (wV (rY rZ)).2 _)
      rw [hq8] at Yd
      exact aA.ag ⟨(k + 1), Jq, Jr, OV, OW, Y, Y, by omega, by rw [hnx]; exact hlo2, (((((((((Yd.rm s8).rm s7).rm s6).rm s5).rm s4).rm s3).sel s0).sel s2).sel s2)⟩ rfl (by omega)
     have JE := aai rZ
     have hgo : mZ (⟨ds, ns, ks, ah, aW, bg, all, aJ, now + aY⟩ : fF) (aL ks x1.aB) (aL aW x1.aB) l = true := acM ML MN JE
     have acP : x1.Have + ((dO l (aL ks x1.aB).ID).length : Int) < aJ := by omega
     refine WP.skip (aA.aS ?_)
     exact aA.ag ⟨Jq, Jr, OV, OW, (kG l bg all (aL ks x1.aB) (lV l (((aL aW x1.aB).av).filter fun x9 => !(!(ah.contains x9))) bg) (vR (lG ns ah (aO ks ns l) ((([((aL ks x1.aB).av), (dO l ((aL ks x1.aB).ID)), (dI ds ((aL ks x1.aB).ID))] : List (List Int))).flatten) ns)) (now + aY)), (mY l o bg all (aL ks x1.aB) (lV l (((aL aW x1.aB).av).filter fun x9 => !(!(ah.contains x9))) bg) (vR (lG ns ah (aO ks ns l) ((([((aL ks x1.aB).av), (dO l ((aL ks x1.aB).ID)), (dI ds ((aL ks x1.aB).ID))] : List (List Int))).flatten) ns)) (now + aY)), (f - 1), Y, Y, by have hcb := pz JE; have hca := EZ JE; rw [hcb.2.1, hcb.2.2]; omega, by exact (QE (x := (⟨ds, ns, ks, ah, aW, bg, all, aJ, now + aY⟩ : fF)) (by omega) acP hgo).trans hrep, by have hcb := pz JE; rw [hcb.1]; omega, ((((Yd.rm s3).sel s0).sel s2).sel s2)⟩ rfl (by omega)
  replace JD := of_decide_eq_false JD
  refine WP.exit (aA.aF (aA.aF (aA.bS (aA.aS (aA.norm ?_)))))
  have hnx : (iP (⟨ds, ns, ks, ah, aW, bg, all, aJ, now + aY⟩ : fF) (needs.take (k + 1)) (ls, os)) = (l, o) := by rw [oP hx1, ← hrep]; exact oO (x := (⟨ds, ns, ks, ah, aW, bg, all, aJ, now + aY⟩ : fF)) (by first | (rintro ⟨hg1, hg⟩; exact absurd hg1 JD) | (rintro ⟨_, hg⟩; first | (rw [show mZ (⟨ds, ns, ks, ah, aW, bg, all, aJ, now + aY⟩ : fF) (aL ks x1.aB) (aL aW x1.aB) l = false from Jt ML] at hg; cases hg) | (rw [show mZ (⟨ds, ns, ks, ah, aW, bg, all, aJ, now + aY⟩ : fF) (aL ks x1.aB) (aL aW x1.aB) l = false from Ju MN] at hg; cases hg) | (rw [show mZ (⟨ds, ns, ks, ah, aW, bg, all, aJ, now + aY⟩ : fF) (aL ks x1.aB) (aL aW x1.aB) l = false from Jv (rY rZ)] at hg; cases hg))) f
  refine eP <| ev (Ev.add Y Y (eX.mk (by omega) (by omega))) <| mv Y <| eT ?_
  have uj : (l : List ALease) = (iP (⟨ds, ns, ks, ah, aW, bg, all, aJ, now + aY⟩ : fF) (needs.take (k + 1)) (ls, os)).1 := by first | (rw [hnx]; done) | (rw [hnx]; exact (wV (rY rZ)).1)
  rw [uj] at L6
  have jK : (o : List AOrder) = (iP (⟨ds, ns, ks, ah, aW, bg, all, aJ, now + aY⟩ : fF) (needs.take (k + 1)) (ls, os)).2 := by first | (rw [hnx]; done) | (rw [hnx]; exact (wV (rY rZ)).2 _)
  rw [jK] at L6
  exact aA.ag ⟨(k + 1), A1, c1, um, c15, Y, Y, by omega, by rw [hnx]; exact hlo2, (((((L6.rm s7).rm s6).rm s5).rm s4).rm s3)⟩ rfl (by omega)
 replace hc19 := of_decide_eq_false hc19
 refine WP.exit (aA.aF (aA.aF (aA.bS (aA.Yu (aA.nL (aA.aD Y Y Y ?_))))))
 have hfk : needs.take k = needs := List.take_of_length_le (by omega)
 rw [hfk] at K2
 have H8 := (K2.rm s3)
 exact ⟨Y, _, _, _, _, ((((H8.sel s1).sel s3).sel s2).sel s3)⟩
end Go.Proofs.YtjcklpooaaaglaaGreat
set_option maxRecDepth 4000
set_option linter.all false
namespace Go.Proofs.YtjcklpooaaaglaaGreat
open Go.RowKit
def gq (s : ASoft) (r : ARules) (now : Int) : List Int := (vI (bD s now).bU now r.eG).map ABeat.Node
def fV (m : AMeta) (s : ASoft) (now : Int) : List AChunk := iN m.bC (bD s now).bH
def qy (m : AMeta) (s : ASoft) (r : ARules) (now : Int) : List bK := oh (fV m s now) m.bA (gq s r now) r.gy
abbrev Ak (m : AMeta) (s : ASoft) (r : ARules) (now : Int) : fF := ⟨(bD s now).bH, m.bA, m.bC, gq s r now, fV m s now, r.fU, r.All, r.gy, now + r.dW⟩
def iQ (m : AMeta) (s : ASoft) (r : ARules) (now : Int) : List ALease × List AOrder := iP (Ak m s r now) (qy m s r now) ((bD s now).bI, [])
def jZ (m : AMeta) (s : ASoft) (r : ARules) (now : Int) : List AOrder := fA (iQ m s r now).1 m.bC m.bA (gq s r now) r.gy (now + r.dW) (fV m s now)
def TQ (m : AMeta) (s : ASoft) (r : ARules) (now : Int) : Bool := (decide (((qy m s r now).length : Int) = 0) && decide (((iQ m s r now).1.length : Int) = 0)) && decide ((((bD s now).bH ++ jZ m s r now).length : Int) = 0)
def rdL (m : AMeta) (s : ASoft) (r : ARules) (now : Int) : List ALease := if TQ m s r now = true then zP (iQ m s r now).1 m.bC (fV m s now) m.bA (gq s r now) r.aK r.fU r.All (now + r.dW) else (iQ m s r now).1
def rdO (m : AMeta) (s : ASoft) (r : ARules) (now : Int) : List AOrder := if TQ m s r now = true then EX (iQ m s r now).1 ((iQ m s r now).2 ++ jZ m s r now) m.bC (fV m s now) m.bA (gq s r now) r.aK r.fU r.All (now + r.dW) else (iQ m s r now).2 ++ jZ m s r now
def MO (m : AMeta) (r : ARules) : Bool := jD r && jA m.bC
def gU (m : AMeta) (s : ASoft) (r : ARules) (now : Int) : ASoft := if MO m r = true then ⟨(bD s now).bU, rdL m s r now, (bD s now).bH ++ jZ m s r now⟩ else s
def jH (m : AMeta) (s : ASoft) (r : ARules) (now : Int) : List AOrder := if MO m r = true then rdO m s r now else []
def kN (m : AMeta) (s : ASoft) (r : ARules) (now : Int) : List iT := if MO m r = true then (jZ m s r now).map gY else []
theorem JF {c : AChunk} (h : pX c = true) : c.av.length ≤ 16 := by
  rcases yI _ _ (qo h).2.2 with h1 | h1
  · rw [h1]; simp
  · omega
theorem MP (ds : List AOrder) (c : AChunk) : (vJ ds c).av.length ≤ c.av.length := List.length_filter_le _ _
theorem MQ {x : fF} {c d : AChunk} {h : Int} (ha : x.all ≤ 64) : ∀ (f : Nat) (l : List ALease) (o : List AOrder), l.length ≤ 64 → (EY x c d h f (l, o)).1.length ≤ 64 ∧ (EY x c d h f (l, o)).2.length + l.length = o.length + (EY x c d h f (l, o)).1.length
  | 0, l, o, hl => ⟨hl, by show o.length + l.length = o.length + l.length; rfl⟩
  | f + 1, l, o, hl => by
    unfold EY
    split
    · rename_i hc
      have hg : rV l x.bg x.all c (rX x d l) (vR (lY x c l)) x.u = true := by
        have := hc.2; unfold mZ at this; simp only [Bool.and_eq_true] at this; exact this.2
      have h1 := pz hg
      have h2 := EZ hg
      have ih := MQ (c := c) (d := d) (h := h) ha f (kG l x.bg x.all c (rX x d l) (vR (lY x c l)) x.u) (mY l o x.bg x.all c (rX x d l) (vR (lY x c l)) x.u) (by rw [h1.2.1]; omega)
      rw [h1.2.1, h1.2.2] at ih
      have key : ∀ r : List ALease × List AOrder, r.2.length + (l.length + 1) = o.length + 1 + r.1.length → r.2.length + l.length = o.length + r.1.length := by intro r h; omega
      exact ⟨ih.1, key _ ih.2⟩
    · exact ⟨hl, Y⟩
theorem E5 {x : fF} (ha : x.all ≤ 64) : ∀ (M : List bK) (s : List ALease × List AOrder), s.1.length ≤ 64 → (iP x M s).1.length ≤ 64 ∧ (iP x M s).2.length + s.1.length = s.2.length + (iP x M s).1.length
  | [], s, hs => ⟨hs, rfl⟩
  | n :: M, s, hs => by
    have h1 := MQ (c := aL x.ks n.aB) (d := aL x.aW n.aB) (h := n.Have) ha 100 s.1 s.2 hs
    have h2 := E5 ha M (uY x s n) h1.1
    refine ⟨h2.1, ?_⟩
    have h3 : (uY x s n).2.length + s.1.length = s.2.length + (uY x s n).1.length := h1.2
    have h4 := h2.2
    show (iP x M (uY x s n)).2.length + s.1.length = s.2.length + (iP x M (uY x s n)).1.length
    omega
theorem xW (s : ASoft) (now : Int) : (bD s now).bI.length ≤ s.bI.length ∧ (bD s now).bH.length ≤ s.bH.length := ⟨List.length_filter_le _ _, List.length_filter_le _ _⟩
theorem Wp {m : AMeta} (hm : jA m.bC = true) (s : ASoft) (r : ARules) (now : Int) : ∀ x ∈ qy m s r now, 0 ≤ x.Have ∧ x.Have ≤ 1000 := by
  intro x hx
  obtain ⟨c, hc, _, rfl⟩ := OU.1 hx
  obtain ⟨c0, h0, rfl⟩ := List.mem_map.1 hc
  have h1 := JF ((j4.1 hm).1 c0 h0)
  have h2 := MP (bD s now).bH c0
  have h3 : (bR (vJ (bD s now).bH c0) m.bA (gq s r now)).length ≤ (vJ (bD s now).bH c0).av.length := Nat.le_trans (List.length_filter_le _ _) (List.length_filter_le _ _)
  simp only [lW]; omega
theorem zS {l : List AChunk} (hm : jA l = true) (k : Nat) (hk : 16 ≤ k) : ∀ x ∈ l, x.av.length ≤ k := fun x hx => by have := JF ((j4.1 hm).1 x hx); omega
theorem u7 {l : List AChunk} (hm : jA l = true) (ds : List AOrder) (k : Nat) (hk : 16 ≤ k) : ∀ x ∈ iN l ds, x.av.length ≤ k := fun x hx => by
  obtain ⟨c, hc, rfl⟩ := List.mem_map.1 hx
  have := JF ((j4.1 hm).1 c hc); have := MP ds c; omega
theorem qz (l : List AChunk) (ds : List AOrder) : (iN l ds).length = l.length := List.length_map ..
theorem HY {r : ARules} (h : jD r = true) : (1 ≤ r.eG ∧ r.eG ≤ 1048576) ∧ (1 ≤ r.dW ∧ r.dW ≤ 1048576) ∧ (1 ≤ r.fU ∧ r.fU ≤ 64) ∧ (1 ≤ r.All ∧ r.All ≤ 64) ∧ (1 ≤ r.gy ∧ r.gy ≤ 8) ∧ 1 ≤ r.aK ∧ r.aK ≤ 16 := by
  simp only [jD, jC, Bool.and_eq_true, decide_eq_true_eq] at h; omega
theorem aap : Size Tryz.prog 33 6 := fun _ => by kernel_rfl
theorem zT : NT Tryz.prog 33 6 := ⟨fun _ => by kernel_rfl, aap⟩
theorem aaq : aM Tryz.prog 23 := fun _ _ => by kernel_rfl
theorem wW (a0 : an3) (Wj Wm : Nat) (a1 : an3) (a1n a1c : Nat) (a2 : an3) (a2n a2c : Nat) : Tryz.prog.built 31 [(0, .slice a0 Wj Wm), (1, .slice a1 a1n a1c), (2, .slice a2 a2n a2c)] = some #[.slice a0 Wj Wm, .slice a1 a1n a1c, .slice a2 a2n a2c] := by kernel_rfl
theorem afE : Size Tryz.prog 26 3 := fun _ => by kernel_rfl
theorem MR : NT Tryz.prog 26 3 := ⟨fun _ => by kernel_rfl, afE⟩
theorem aar : aM Tryz.prog 18 := fun _ _ => by kernel_rfl
theorem zU (LQ : an3) (BS BU : Nat) (Wq : an3) (MS MV : Nat) (Ws : an3) (MW MX : Nat) (Wt : an3) (MZ M0 : Nat) (Wu : an3) (M4 M5 : Nat) (Wv : an3) (M6 M7 : Nat) (Wx : Int) (Wy : Int) (Wz : Int) (WA : Int) (WB : Int) (WC : Int) (a3 : Int) : Tryz.prog.built 81 [(0, .agg #[.slice LQ BS BU, .slice Wq MS MV, .slice Ws MW MX]), (1, .agg #[.slice Wt MZ M0, .slice Wu M4 M5, .slice Wv M6 M7]), (2, .agg #[.int .i64 Wx, .int .i64 Wy, .int .i64 Wz, .int .i64 WA, .int .i64 WB, .int .i64 WC]), (3, .int .i64 a3)] = some #[.slice LQ BS BU, .slice Wq MS MV, .slice Ws MW MX, .slice Wt MZ M0, .slice Wu M4 M5, .slice Wv M6 M7, .int .i64 Wx, .int .i64 Wy, .int .i64 Wz, .int .i64 WA, .int .i64 WB, .int .i64 WC, .int .i64 a3, .slice none 0 0, .slice none 0 0, .slice none 0 0, .slice none 0 0] := by kernel_rfl
theorem afF : aM Tryz.prog 28 := fun _ _ => by kernel_rfl
theorem aas : aM Tryz.prog 21 := fun _ _ => by kernel_rfl
theorem afG : Size Tryz.prog 23 1 := fun _ => by kernel_rfl
theorem afH : aM Tryz.prog 39 := fun _ _ => by kernel_rfl
theorem afI : aM Tryz.prog 40 := fun _ _ => by kernel_rfl
theorem afJ : aM Tryz.prog 41 := fun _ _ => by kernel_rfl
theorem afK : aM Tryz.prog 42 := fun _ _ => by kernel_rfl
set_option maxHeartbeats 2000000 in
theorem E8 {S0 : Nat → Prop} (w : World) (m : AMeta) {ku : an3} {kC : Nat} (Gi : Sl tNode S0 w ku kC m.bA) {kD : an3} {kE : Nat} (yT : Sl tChunk S0 w kD kE m.bC) {lH : an3} {lI : Nat} (SN : Sl tSession S0 w lH lI m.dS) (s : ASoft) {qN : an3} {qO : Nat} (Bv : Sl tBeat S0 w qN qO s.bU) {uQ : an3} {uR : Nat} (Bw : Sl tLease S0 w uQ uR s.bI) {uS : an3} {uT : Nat} (vT : Sl tOrder S0 w uS uT s.bH) (r : ARules) (now : Int) (hb : s.bU.length ≤ 1000) (hl : s.bI.length ≤ 64) (hd : s.bH.length ≤ 50000) (hn : m.bA.length ≤ 1000) (hc : m.bC.length ≤ 1000) (hu : 0 ≤ now ∧ now ≤ 1099511627776) :
    bY Tryz.prog 13 #[.agg #[.slice ku m.bA.length kC, .slice kD m.bC.length kE, .slice lH m.dS.length lI], .agg #[.slice qN s.bU.length qO, .slice uQ s.bI.length uR, .slice uS s.bH.length uT], .agg #[.int .i64 r.eG, .int .i64 r.fU, .int .i64 r.All, .int .i64 r.gy, .int .i64 r.dW, .int .i64 r.aK], .int .i64 now] w fun v w' => ∃ (B0_0 : an3) (qG : Nat) (B0_1 : an3) (EP : Nat) (ER : an3) (ES : Nat) (A1 : an3) (c1 : Nat) (A2 : an3) (c2 : Nat), v = .tuple #[.agg #[.slice B0_0 (((gU m s r now).bU).length) qG, .slice B0_1 (((gU m s r now).bI).length) EP, .slice ER (((gU m s r now).bH).length) ES], .slice A1 ((jH m s r now).length) c1, .slice A2 ((kN m s r now).length) c2] ∧ Hp w S0 w' [aQ tBeat 72 B0_0 qG ((gU m s r now).bU), aQ tLease 77 B0_1 EP ((gU m s r now).bI), aQ tOrder 50 ER ES ((gU m s r now).bH), aQ tOrder 50 A1 c1 (jH m s r now), aQ nI 60 A2 c2 (kN m s r now)] := by
 refine WP.enter Tryz.func13 Y Tryz.ntmps13 Y ?_
 have H0 := Hp.init w S0
 refine rg ?_
 refine bx Y Y H0 fun g1 w1 K1 => ?_
 refine bx Y Y K1 fun g2 w2 K2 => ?_
 refine bx Y Y K2 fun g3 w3 K3 => ?_
 refine al rR Y K3 fun g4 w4 K4 => ?_
 refine aR Y <| aR Y <| dn <| WP.seq <| rg <| ev (Ev.bX zT Y Y (K4.x s1)) ?_
 refine C0 K4 Y Y Y aaq (Qy (S0 := Any) _ r) fun w5 K5 => ?_
 refine ev (Ev.not Y) <| mv Y ?_
 refine WL.oI 5 21 ((!(jD r)) || (!(jA m.bC))) ?_ ?_
 ·
  cases CO : (!(jD r)) with
  | true =>
   refine WL.pass Y Y Y <| WL.pass Y Y Y <| WL.pass Y Y Y <| WL.pass Y Y Y <| ev (Ev.bq Y Y) ?_
   exact WL.iY Y (Ext.refl _)
  | false =>
   refine WL.bF Y (Ev.field (q := ⟨g1, 1, none⟩) mg Y Y) Y <| WL.bF Y (Ev.aj nM Y (K5.x s3) Y) Y <| WL.jd Y Y Y Y UC (IU _ (K5.a yT).any (by omega)) Y ?_
   rintro _ w6 ⟨rfl, h6⟩
   have K6 := K5.c0 h6
   refine WL.bF Y (Ev.not Y) Y <| ev (Ev.bn Y Y) ?_
   exact WL.iY Y h6.ext
 intro w7 e7
 have K7 := K5.grow e7
 refine dn ?_
 refine WP.aG Y (fun hc21 => ?_) (fun hc21 => ?_)
 ·
  have hrb : MO m r = false := by unfold MO; revert hc21; cases jD r <;> cases jA m.bC <;> simp
  refine He K7 (fun _ K => (K.rm s0)) (fun l0 rk lJ wJ => ∃ (jw : an3) (jy : Nat) (o9 : an3) (cj2 : Nat) (Ai : an3) (Aj : Nat), lJ = l0 ∧ Hp w S0 wJ (dG g4 31 [.slice Ai s.bU.length Aj, .slice o9 s.bI.length cj2, .slice jw s.bH.length jy] :: aQ tOrder 50 jw jy s.bH :: aQ tLease 77 o9 cj2 s.bI :: aQ tBeat 72 Ai Aj s.bU :: rk)) (fun hns H1 => ?_) ?_
  ·
   have k1 := (H1.rm s0)
   refine Tn 0 1 hns Y (fun _ _ => Ev.field (q := ⟨g2, 0, none⟩) qh Y Y) k1 <| Tn 1 3 hns Y (fun _ hK => Ev.aj zK Y (hK.x s1) Y) k1 ?_
   refine Tn 3 11 hns Y (fun _ _ => Ev.field (q := ⟨g2, 1, none⟩) iV Y Y) k1 <| Tn 4 27 hns Y (fun _ hK => Ev.aj oo Y (hK.x s1) Y) k1 ?_
   refine Tn 6 91 hns Y (fun _ _ => Ev.field (q := ⟨g2, 2, none⟩) jc Y Y) k1 <| Tn 7 219 hns Y (fun _ hK => Ev.aj gV Y (hK.x s1) Y) k1 ?_
   refine O1 2 Y <| WL.call Y Y Y VI (uO _ (H1.a Bv).any (by omega)) Y ?_
   rintro _ w8 ⟨yg, yj, rfl, h8⟩
   have K8 := H1.f1 h8
   have Qh := (K8.o s0).aN
   have k2 := ((K8.rm s1).rm s0)
   refine WH.next k2 <| O1 5 Y <| WL.call Y Y Y Vm (sK _ (K8.a Bw).any (by omega)) Y ?_
   rintro _ w9 ⟨acQ, acR, rfl, h9⟩
   have K9 := K8.f1 h9
   have afL := (K9.o s0).aN
   have k3 := (((K9.rm s2).rm s1).rm s0)
   refine WH.next k3 <| O1 8 Y <| WL.call Y Y Y ZY (yD _ (K9.a vT).any (by omega)) Y ?_
   rintro _ J8 ⟨EF, EG, rfl, h10⟩
   have K10 := K9.f1 h10
   have acS := (K10.o s0).aN
   have k4 := ((((K10.rm s3).rm s2).rm s1).rm s0)
   refine WH.next k4 <| Tn 9 1023 hns Y (fun _ _ => Ev.build (vs := [(0, .slice yg s.bU.length yj), (1, .slice acQ s.bI.length acR), (2, .slice EF s.bH.length EG)]) (cs := [.slice yg s.bU.length yj, .slice acQ s.bI.length acR, .slice EF s.bH.length EG]) Y (by apply wW)) k4 ?_
   refine O1 10 Y ?_
   refine iW Y Y Y rT K10 s3 Y Y fun Om qb => ?_
   have k5 := ((((qb.rm s3).rm s2).rm s1).rm s0)
   refine WH.next k5 <| Ta 11 4095 hns Y Y k5 <| Ta 12 8191 hns Y Y k5 ?_
   exact Dn ⟨EF, EG, acQ, acR, yg, yj, Y, qb⟩ Y
  rintro _ Le ⟨jw, jy, o9, cj2, Ai, Aj, rfl, oH⟩
  refine WP.ret (aA.aP (aA.oG Y ⟨_, _, Y, ⟨_, Y, eH (cs := [.slice Ai s.bU.length Aj, .slice o9 s.bI.length cj2, .slice jw s.bH.length jy]) kW Y (oH.x s0)⟩, ⟨_, _, Y, Y, ⟨_, _, Y, Y, Y⟩⟩⟩ ?_))
  have hq1 : ((⟨s.bU, s.bI, s.bH⟩ : ASoft) : ASoft) = (gU m s r now) := by unfold gU; rw [if_neg (by rw [hrb]; decide)]
  have hq2 : (s.bU : List ABeat) = ((gU m s r now).bU) := by rw [← hq1]
  have hq3 : (s.bI : List ALease) = ((gU m s r now).bI) := by rw [← hq1]
  have hq4 : (s.bH : List AOrder) = ((gU m s r now).bH) := by rw [← hq1]
  have H2 := oH.nil tOrder 50
  have kP : (([] : List AOrder) : List AOrder) = (jH m s r now) := by unfold jH; rw [if_neg (by rw [hrb]; decide)]
  have H3 := (kP ▸ H2 : Hp w S0 Le (aQ tOrder 50 none 0 (jH m s r now) :: [dG g4 31 [.slice Ai s.bU.length Aj, .slice o9 s.bI.length cj2, .slice jw s.bH.length jy], aQ tOrder 50 jw jy s.bH, aQ tLease 77 o9 cj2 s.bI, aQ tBeat 72 Ai Aj s.bU, dG g3 33 [.int .i64 r.eG, .int .i64 r.fU, .int .i64 r.All, .int .i64 r.gy, .int .i64 r.dW, .int .i64 r.aK], dG g2 31 [.slice qN s.bU.length qO, .slice uQ s.bI.length uR, .slice uS s.bH.length uT], dG g1 26 [.slice ku m.bA.length kC, .slice kD m.bC.length kE, .slice lH m.dS.length lI]]))
  have H4 := H3.nil nI 60
  have ny : (([] : List iT) : List iT) = (kN m s r now) := by unfold kN; rw [if_neg (by rw [hrb]; decide)]
  have H5 := (ny ▸ H4 : Hp w S0 Le (aQ nI 60 none 0 (kN m s r now) :: [aQ tOrder 50 none 0 (jH m s r now), dG g4 31 [.slice Ai s.bU.length Aj, .slice o9 s.bI.length cj2, .slice jw s.bH.length jy], aQ tOrder 50 jw jy s.bH, aQ tLease 77 o9 cj2 s.bI, aQ tBeat 72 Ai Aj s.bU, dG g3 33 [.int .i64 r.eG, .int .i64 r.fU, .int .i64 r.All, .int .i64 r.gy, .int .i64 r.dW, .int .i64 r.aK], dG g2 31 [.slice qN s.bU.length qO, .slice uQ s.bI.length uR, .slice uS s.bH.length uT], dG g1 26 [.slice ku m.bA.length kC, .slice kD m.bC.length kE, .slice lH m.dS.length lI]]))
  exact ⟨Ai, Aj, o9, cj2, jw, jy, none, 0, none, 0, by first | (rw [hq2, hq3, hq4, ← kP, ← ny] <;> rfl) | (rw [hq2, hq3, hq4, ← kP, ← ny] <;> rfl), by rw [← hq2, ← hq3, ← hq4]; exact (((((((((H5.rm s8).rm s7).rm s6).rm s2).sel s0).sel s1).sel s2).sel s3).sel s4)⟩
 have hrb : jD r = true ∧ jA m.bC = true := by revert hc21; cases jD r <;> cases jA m.bC <;> simp
 refine WP.skip (aA.norm ?_)
 refine He K7 (fun _ K => K) (fun l0 rk lJ wJ => ∃ (iZ : Nat) (vL : an3) (vM : Nat) (TR : an3) (TS : Nat) (TT : an3) (TU : Nat), lJ = (11, .pointer (some ⟨iZ, 0, none⟩)) :: l0 ∧ Hp w S0 wJ (dG iZ 81 [.slice vL (((bD s now).bU).length) vM, .slice TR (((bD s now).bI).length) TS, .slice TT (((bD s now).bH).length) TU, .slice ku m.bA.length kC, .slice kD m.bC.length kE, .slice lH m.dS.length lI, .int .i64 r.eG, .int .i64 r.fU, .int .i64 r.All, .int .i64 r.gy, .int .i64 r.dW, .int .i64 r.aK, .int .i64 now, .slice none 0 0, .slice none 0 0, .slice none 0 0, .slice none 0 0] :: aQ tBeat 72 vL vM ((bD s now).bU) :: aQ tLease 77 TR TS ((bD s now).bI) :: aQ tOrder 50 TT TU ((bD s now).bH) :: rk)) (fun hns H6 => ?_) ?_
 ·
  refine Tn 0 1 hns Y (fun _ hK => Ev.bX kW Y Y (hK.x s2)) H6 <| Tm 1 3 hns Y Y H6 <| Tn 3 11 hns Y (fun _ hK => Ev.bX MR Y Y (hK.x s3)) H6 ?_
  refine Tn 4 27 hns Y (fun _ hK => Ev.bX zT Y Y (hK.x s1)) H6 <| Tm 5 59 hns Y Y H6 <| O1 2 Y <| WL.call Y Y Y aar (MF _ s (H6.a Bv).any (H6.a Bw).any (H6.a vT).any now (by omega) (by omega) (by omega)) Y ?_
  rintro _ RY ⟨vg, vk, JG, JH, JI, JJ, rfl, h13⟩
  have sP := H6.f3 h13
  have acT := (sP.o s0).aN
  have ai3 := (sP.o s1).aN
  have ai4 := (sP.o s2).aN
  have k6 := (((sP.rm s2).rm s1).rm s0)
  refine WH.next k6 <| Tn 6 127 hns Y (fun _ _ => Ev.build (vs := [(0, .agg #[.slice vg (((bD s now).bU).length) vk, .slice JG (((bD s now).bI).length) JH, .slice JI (((bD s now).bH).length) JJ]), (1, .agg #[.slice ku m.bA.length kC, .slice kD m.bC.length kE, .slice lH m.dS.length lI]), (2, .agg #[.int .i64 r.eG, .int .i64 r.fU, .int .i64 r.All, .int .i64 r.gy, .int .i64 r.dW, .int .i64 r.aK]), (3, .int .i64 now)]) (cs := [.slice vg (((bD s now).bU).length) vk, .slice JG (((bD s now).bI).length) JH, .slice JI (((bD s now).bH).length) JJ, .slice ku m.bA.length kC, .slice kD m.bC.length kE, .slice lH m.dS.length lI, .int .i64 r.eG, .int .i64 r.fU, .int .i64 r.All, .int .i64 r.gy, .int .i64 r.dW, .int .i64 r.aK, .int .i64 now, .slice none 0 0, .slice none 0 0, .slice none 0 0, .slice none 0 0]) Y (by apply zU)) k6 ?_
  refine O1 7 Y ?_
  refine bx Y Y sP fun g5 RZ nO => ?_
  have k7 := ((((nO.rm s3).rm s2).rm s1).rm s0)
  refine WH.next k7 <| Ta 8 511 hns Y Y k7 ?_
  exact Dn ⟨g5, vg, vk, JG, JH, JI, JJ, Y, nO⟩ Y
 rintro _ TM ⟨iZ, vL, vM, TR, TS, TT, TU, rfl, vW⟩
 refine He vW (fun _ K => (K.rm s0)) (fun l0 rk lJ wJ => ∃ (Aj7 : an3) (cj7 : Nat), lJ = l0 ∧ Hp w S0 wJ (dG iZ 81 [.slice vL (((bD s now).bU).length) vM, .slice TR (((bD s now).bI).length) TS, .slice TT (((bD s now).bH).length) TU, .slice ku m.bA.length kC, .slice kD m.bC.length kE, .slice lH m.dS.length lI, .int .i64 r.eG, .int .i64 r.fU, .int .i64 r.All, .int .i64 r.gy, .int .i64 r.dW, .int .i64 r.aK, .int .i64 now, .slice Aj7 ((gq s r now).length) cj7, .slice none 0 0, .slice none 0 0, .slice none 0 0] :: aQ tInt 3 Aj7 cj7 (gq s r now) :: rk)) (fun hns H7 => ?_) ?_
 ·
  have k8 := (H7.rm s0)
  refine Tm 0 1 hns Y Y k8 <| Tm 1 3 hns Y Y k8 <| Tn 2 7 hns Y (fun _ _ => Ev.nilCheck Y) k8 <| Tn 3 15 hns Y (fun _ _ => Ev.field (q := ⟨iZ, 0, none⟩) lC Y Y) k8 ?_
  refine Tn 4 31 hns Y (fun _ _ => Ev.field (q := ⟨iZ, 0, none⟩) qh Y Y) k8 <| Tm 6 95 hns Y Y k8 <| Tn 7 223 hns Y (fun _ _ => Ev.field (q := ⟨g3, 0, none⟩) Da Y Y) k8 ?_
  refine Tn 8 479 hns Y (fun _ hK => Ev.aj bf Y (hK.x s4) Y) k8 <| O1 5 Y <| ev (Ev.aj zK Y (H7.x s0) Y) <| WH.next k8 <| O1 9 Y <| WL.call Y Y Y afF (F6 _ (H7.o s1) now r.eG (Nat.le_trans hb (by decide))) Y ?_
  rintro _ w16 ⟨Ls, Lu, rfl, h16⟩
  have tQ := H7.f1 h16
  have JA := (tQ.o s0).aN
  have k9 := ((tQ.rm s1).rm s0)
  refine WH.next k9 <| Tn 10 2047 hns Y (fun _ _ => Ev.nilCheck Y) k9 <| Tn 11 4095 hns Y (fun _ _ => Ev.field (q := ⟨iZ, 13, none⟩) xU Y Y) k9 ?_
  refine O1 12 Y ?_
  refine BK Y Y Y zm tQ s1 Y fun Vh qp => ?_
  have k10 := ((qp.rm s1).rm s0)
  refine WH.next k10 ?_
  exact Dn ⟨Ls, Lu, Y, qp⟩ Y
 rintro _ Yb ⟨Aj7, cj7, rfl, vX⟩
 refine He vX (fun _ K => (K.rm s0)) (fun l0 rk lJ wJ => ∃ (Aj8 : an3) (cj8 : Nat), lJ = l0 ∧ Hp w S0 wJ (dG iZ 81 [.slice vL (((bD s now).bU).length) vM, .slice TR (((bD s now).bI).length) TS, .slice TT (((bD s now).bH).length) TU, .slice ku m.bA.length kC, .slice kD m.bC.length kE, .slice lH m.dS.length lI, .int .i64 r.eG, .int .i64 r.fU, .int .i64 r.All, .int .i64 r.gy, .int .i64 r.dW, .int .i64 r.aK, .int .i64 now, .slice Aj7 ((gq s r now).length) cj7, .slice Aj8 ((fV m s now).length) cj8, .slice none 0 0, .slice none 0 0] :: aQ tChunk 53 Aj8 cj8 (fV m s now) :: rk)) (fun hns H8 => ?_) ?_
 ·
  have k11 := (H8.rm s0)
  refine Tm 0 1 hns Y Y k11 <| Tn 1 3 hns Y (fun _ _ => Ev.field (q := ⟨g1, 1, none⟩) mg Y Y) k11 <| Tn 2 7 hns Y (fun _ hK => Ev.aj nM Y (hK.x s7) Y) k11 ?_
  refine Tm 3 15 hns Y Y k11 <| Tn 4 31 hns Y (fun _ _ => Ev.nilCheck Y) k11 <| Tn 5 63 hns Y (fun _ _ => Ev.field (q := ⟨iZ, 0, none⟩) lC Y Y) k11 ?_
  refine Tn 6 127 hns Y (fun _ _ => Ev.field (q := ⟨iZ, 2, none⟩) jc Y Y) k11 <| O1 7 Y <| ev (Ev.aj gV Y (H8.x s0) Y) <| WH.next k11 ?_
  refine O1 8 Y <| WL.call Y Y Y aas (MG _ (H8.a yT) (H8.o s4) (by omega) (by have := (xW s now).2; omega) (zS hrb.2 _ (by decide))) rfl ?_
  rintro _ ZJ ⟨WE, WG, rfl, h19⟩
  have zy := H8.c1 h19
  have acW := (zy.o s0).aN
  have k12 := ((zy.rm s1).rm s0)
  refine WH.next k12 <| Tn 9 1023 hns Y (fun _ _ => Ev.nilCheck Y) k12 <| Tn 10 2047 hns Y (fun _ _ => Ev.field (q := ⟨iZ, 14, none⟩) zQ Y Y) k12 ?_
  refine O1 11 Y ?_
  refine BK Y Y Y afG zy s1 Y fun ZK vG => ?_
  have k13 := ((vG.rm s1).rm s0)
  refine WH.next k13 ?_
  exact Dn ⟨WE, WG, Y, vG⟩ Y
 rintro _ YR ⟨Aj8, cj8, rfl, sJ⟩
 refine He sJ (fun _ K => K) (fun l0 rk lJ wJ => ∃ (Aj9 : an3) (cj9 : Nat), lJ = (12, .slice Aj9 ((qy m s r now).length) cj9) :: l0 ∧ Hp w S0 wJ (aQ fP 90 Aj9 cj9 (qy m s r now) :: rk)) (fun hns H9 => ?_) ?_
 ·
  refine Tm 0 1 hns Y Y H9 <| Tn 1 3 hns Y (fun _ _ => Ev.nilCheck Y) H9 <| Tn 2 7 hns Y (fun _ _ => Ev.field (q := ⟨iZ, 14, none⟩) zQ Y Y) H9 ?_
  refine Tn 3 15 hns Y (fun _ hK => Ev.aj nM Y (hK.x s0) Y) H9 <| Tn 4 31 hns Y (fun _ _ => Ev.field (q := ⟨g1, 0, none⟩) oq Y Y) H9 ?_
  refine Tn 5 63 hns Y (fun _ hK => Ev.aj lS Y (hK.x s9) Y) H9 <| Tm 6 127 hns Y Y H9 <| Tn 7 255 hns Y (fun _ _ => Ev.nilCheck Y) H9 ?_
  refine Tn 8 511 hns Y (fun _ _ => Ev.field (q := ⟨iZ, 13, none⟩) xU Y Y) H9 <| Tn 9 1023 hns Y (fun _ hK => Ev.aj gK Y (hK.x s0) Y) H9 ?_
  refine Tn 10 2047 hns Y (fun _ _ => Ev.field (q := ⟨g3, 3, none⟩) rQ Y Y) H9 <| Tn 11 4095 hns Y (fun _ hK => Ev.aj bf Y (hK.x s7) Y) H9 ?_
  refine O1 12 Y <| WL.call Y Y Y afH (VU _ (H9.o s1) (H9.a Gi).any (H9.o s2) r.gy (by have := qz m.bC (bD s now).bH; show (iN m.bC (bD s now).bH).length ≤ _; omega) (u7 hrb.2 _ _ (by decide)) (by omega)) rfl ?_
  rintro _ ZL ⟨LX, LY, rfl, h22⟩
  have yO := H9.f1 h22
  have OP := (yO.o s0).aN
  have k14 := (yO.rm s0)
  refine WH.next k14 <| Ta 13 16383 hns Y Y k14 ?_
  exact Dn ⟨LX, LY, Y, yO⟩ Y
 rintro _ w23 ⟨Aj9, cj9, rfl, Ag⟩
 have Cc := Ag.fz s3
 have OZ := Cc.fz s3
 have H12 := OZ.fz s2
 have H13 := H12.push (H12.a Gi)
 have H14 := H13.push (H13.a yT)
 have H15 := H14.nil tOrder 50
 have H16 := H15.nil nI 60
 have hmay : jD r = true ∧ jA m.bC = true := hrb
 have hbd := HY hmay.1
 have hpl := xW s now
 have hsl : (fV m s now).length = m.bC.length := qz _ _
 have hnl : (qy m s r now).length ≤ (fV m s now).length := EL _ _ _ _
 have hrl := E5 (x := Ak m s r now) hbd.2.2.2.1.2 (qy m s r now) ((bD s now).bI, []) (Nat.le_trans hpl.1 hl)
 have WJ : (iQ m s r now).1.length ≤ 64 := hrl.1
 have hrl2 : (iQ m s r now).2.length ≤ 64 := by have h2 := hrl.2; have h3 : (iQ m s r now).1.length ≤ 64 := hrl.1; simp only [List.length_nil] at h2; show (iP (Ak m s r now) (qy m s r now) ((bD s now).bI, [])).2.length ≤ 64; have h4 : (iP (Ak m s r now) (qy m s r now) ((bD s now).bI, [])).1.length ≤ 64 := hrl.1; omega
 have htl : (jZ m s r now).length ≤ (fV m s now).length := wT _ _ _ _ _ _ _
 have hcl := (j4.1 hmay.2).2.1
 have hol : ((iQ m s r now).2 ++ jZ m s r now).length ≤ 100000 := by rw [List.length_append]; omega
 refine rg <| mv Y <| mv Y <| WL.call Y Y Y afI (Y8 (os := []) (AO := none) (cO := 0) (((((((((((H16.sel s8).sel s1).sel s5).sel s6).sel s7).sel s6).sel s7).sel s7).sel s10).sel s10).sel s10) (by omega) (by omega) (by simp) (by omega) (by omega) (by omega) (zS hmay.2 _ (by decide)) (u7 hmay.2 _ _ (by decide)) (by omega) (Wp hmay.2 s r now) (by omega) (by omega)) Y ?_
 rintro _ w24 ⟨rfl, Yg, Yh, Ag2, cg2, yt⟩
 refine dn <| rg <| mv Y <| WL.call Y Y Y afJ (SK (cs := []) (AC := none) (cC := 0) ((((((((((yt.sel s8).sel s8).sel s8).sel s8).sel s8).sel s9).sel s9).sel s9).sel s9).sel s9) (Nat.le_trans WJ (by decide)) (by omega) (Nat.le_trans hrl2 (by decide)) (by simp) (by omega) (by omega) (by omega) (u7 hmay.2 _ _ (by decide)) (by omega)) Y ?_
 rintro _ w25 ⟨rfl, NJ, NK, Ag4, cg4, Yi, Yj, yC⟩
 refine dn <| WP.seq <| rg <| mv Y <| ev (Ev.len Tryz.underlying82 Y) <| ev (Ev.eql Y Y) <| mv Y ?_
 refine WL.dR 8 92 ((decide ((((qy m s r now).length : Nat) : Int) = 0)) && (decide (((((iQ m s r now).1).length : Nat) : Int) = 0))) ?_ ?_
 ·
  cases afP : decide ((((qy m s r now).length : Nat) : Int) = 0) with
  | true =>
   have alf := of_decide_eq_true afP
   refine WL.bF Y (Ev.move Y) Y <| WL.bF Y (Ev.nilCheck Y) Y <| WL.bF Y (Ev.field (q := ⟨iZ, 0, none⟩) lC Y Y) Y <| WL.bF Y (Ev.field (q := ⟨iZ, 1, none⟩) iV Y Y) Y ?_
   refine WL.bF Y (Ev.aj oo Y (yC.x s0) Y) Y <| WL.bF Y (Ev.len Tryz.underlying28 Y) Y <| WL.bF Y (Ev.eql Y Y) Y <| ev (Ev.bq Y Y) ?_
   exact WL.bM Y
  | false =>
   refine WL.pass Y Y Y <| WL.pass Y Y Y <| WL.pass Y Y Y <| WL.pass Y Y Y <| WL.pass Y Y Y <| WL.pass Y Y Y <| WL.pass Y Y Y <| ev (Ev.bn Y Y) ?_
   exact WL.bM Y
 refine mv Y ?_
 refine WL.dR 8 101 (((decide ((((qy m s r now).length : Nat) : Int) = 0)) && (decide (((((iQ m s r now).1).length : Nat) : Int) = 0))) && (decide (((((bD s now).bH ++ jZ m s r now).length : Nat) : Int) = 0))) ?_ ?_
 ·
  cases acX : ((decide ((((qy m s r now).length : Nat) : Int) = 0)) && (decide (((((iQ m s r now).1).length : Nat) : Int) = 0))) with
  | true =>
   have aav := acX
   try simp only [Bool.and_eq_true, Bool.and_eq_false_imp, decide_eq_true_eq, decide_eq_false_iff_not] at aav
   refine WL.bF Y (Ev.move Y) Y <| WL.bF Y (Ev.nilCheck Y) Y <| WL.bF Y (Ev.field (q := ⟨iZ, 0, none⟩) lC Y Y) Y <| WL.bF Y (Ev.field (q := ⟨iZ, 2, none⟩) jc Y Y) Y ?_
   refine WL.bF Y (Ev.aj gV Y (yC.x s0) Y) Y <| WL.bF Y (Ev.len Tryz.underlying29 Y) Y <| WL.bF Y (Ev.eql Y Y) Y <| ev (Ev.bq Y Y) ?_
   exact WL.bM Y
  | false =>
   refine WL.pass Y Y Y <| WL.pass Y Y Y <| WL.pass Y Y Y <| WL.pass Y Y Y <| WL.pass Y Y Y <| WL.pass Y Y Y <| WL.pass Y Y Y <| ev (Ev.bn Y Y) ?_
   exact WL.bM Y
 refine dn ?_
 refine WP.aG Y (fun hc101 => ?_) (fun hc101 => ?_)
 ·
  refine eP <| mv Y <| WL.call Y Y Y afK (Y5 (((((((((yC.sel s4).sel s3).sel s8).sel s8).sel s8).sel s8).sel s8).sel s8).sel s8) (Nat.le_trans WJ (by decide)) hol (by omega) (by omega) (by omega) (zS hmay.2 _ (by decide)) (u7 hmay.2 _ _ (by decide)) (by omega)) Y ?_
  rintro _ w26 ⟨rfl, Jq, Jr, OV, OW, y8⟩
  refine eT <| aA.norm ?_
  refine He y8 (fun _ K => (K.rm s11)) (fun l0 rk lJ wJ => lJ = (9, .slice OV ((EX (iQ m s r now).1 ((iQ m s r now).2 ++ jZ m s r now) m.bC (fV m s now) m.bA (gq s r now) r.aK r.fU r.All (now + r.dW)).length) OW) :: (10, .slice Yi (((jZ m s r now).map gY).length) Yj) :: l0 ∧ Hp w S0 wJ [dG g4 31 [.slice vL (((bD s now).bU).length) vM, .slice Jq ((zP (iQ m s r now).1 m.bC (fV m s now) m.bA (gq s r now) r.aK r.fU r.All (now + r.dW)).length) Jr, .slice NJ (((bD s now).bH ++ jZ m s r now).length) NK], dG iZ 81 [.slice vL (((bD s now).bU).length) vM, .slice Jq ((zP (iQ m s r now).1 m.bC (fV m s now) m.bA (gq s r now) r.aK r.fU r.All (now + r.dW)).length) Jr, .slice NJ (((bD s now).bH ++ jZ m s r now).length) NK, .slice ku m.bA.length kC, .slice kD m.bC.length kE, .slice lH m.dS.length lI, .int .i64 r.eG, .int .i64 r.fU, .int .i64 r.All, .int .i64 r.gy, .int .i64 r.dW, .int .i64 r.aK, .int .i64 now, .slice Aj7 ((gq s r now).length) cj7, .slice Aj8 ((fV m s now).length) cj8, .slice OV ((EX (iQ m s r now).1 ((iQ m s r now).2 ++ jZ m s r now) m.bC (fV m s now) m.bA (gq s r now) r.aK r.fU r.All (now + r.dW)).length) OW, .slice Yi (((jZ m s r now).map gY).length) Yj], aQ tLease 77 Jq Jr (zP (iQ m s r now).1 m.bC (fV m s now) m.bA (gq s r now) r.aK r.fU r.All (now + r.dW)), aQ tOrder 50 OV OW (EX (iQ m s r now).1 ((iQ m s r now).2 ++ jZ m s r now) m.bC (fV m s now) m.bA (gq s r now) r.aK r.fU r.All (now + r.dW)), fM tNode ku kC m.bA, fM tChunk kD kE m.bC, fM tInt Aj7 cj7 (gq s r now), fM tChunk Aj8 cj8 (fV m s now), aQ tOrder 50 NJ NK ((bD s now).bH ++ jZ m s r now), aQ nI 60 Yi Yj ((jZ m s r now).map gY), fM fP Aj9 cj9 (qy m s r now), aQ tBeat 72 vL vM ((bD s now).bU), dG g3 33 [.int .i64 r.eG, .int .i64 r.fU, .int .i64 r.All, .int .i64 r.gy, .int .i64 r.dW, .int .i64 r.aK], dG g2 31 [.slice qN s.bU.length qO, .slice uQ s.bI.length uR, .slice uS s.bH.length uT], dG g1 26 [.slice ku m.bA.length kC, .slice kD m.bC.length kE, .slice lH m.dS.length lI]]) (fun hns H17 => ?_) ?_
  ·
   have k15 := (H17.rm s11)
   refine Tm 0 1 hns Y Y k15 <| Tn 1 3 hns Y (fun _ _ => Ev.nilCheck Y) k15 <| Tn 2 7 hns Y (fun _ _ => Ev.field (q := ⟨iZ, 0, none⟩) lC Y Y) k15 ?_
   refine Tn 3 15 hns Y (fun _ hK => Ev.oZ (cs' := [.slice vL (((bD s now).bU).length) vM, .slice Jq ((zP (iQ m s r now).1 m.bC (fV m s now) m.bA (gq s r now) r.aK r.fU r.All (now + r.dW)).length) Jr, .slice NJ (((bD s now).bH ++ jZ m s r now).length) NK]) kW Y Y (hK.x s0) Y) k15 ?_
   refine Tm 4 31 hns Y Y k15 <| Tn 5 63 hns Y (fun _ _ => Ev.nilCheck Y) k15 <| Tn 6 127 hns Y (fun _ _ => Ev.field (q := ⟨iZ, 15, none⟩) xS Y Y) k15 ?_
   refine Tn 7 255 hns Y (fun _ hK => Ev.aj gV Y (hK.x s0) Y) k15 <| Tm 8 511 hns Y Y k15 <| Tn 9 1023 hns Y (fun _ _ => Ev.nilCheck Y) k15 ?_
   refine Tn 10 2047 hns Y (fun _ _ => Ev.field (q := ⟨iZ, 16, none⟩) Di Y Y) k15 <| Tn 11 4095 hns Y (fun _ hK => Ev.aj zR Y (hK.x s0) Y) k15 ?_
   refine O1 12 Y ?_
   refine iW Y Y Y rT H17 s11 Y Y fun w27 zA => ?_
   have k16 := (zA.rm s0)
   refine WH.next k16 <| Ta 13 16383 hns Y Y k16 <| Ta 14 32767 hns Y Y k16 ?_
   exact Dn ⟨Y, zA⟩ Y
  rintro _ ZM ⟨rfl, yP⟩
  refine WP.ret (aA.oG Y ⟨_, _, Y, ⟨_, Y, eH (cs := [.slice vL (((bD s now).bU).length) vM, .slice Jq ((zP (iQ m s r now).1 m.bC (fV m s now) m.bA (gq s r now) r.aK r.fU r.All (now + r.dW)).length) Jr, .slice NJ (((bD s now).bH ++ jZ m s r now).length) NK]) kW Y (yP.x s0)⟩, ⟨_, _, Y, Y, ⟨_, _, Y, Y, Y⟩⟩⟩ ?_)
  have vo : MO m r = true := by unfold MO; rw [hmay.1, hmay.2]; rfl
  have hrq : TQ m s r now = true := by unfold TQ; first | exact hc101 | (simpa using hc101)
  have kT : ((⟨(bD s now).bU, (zP (iQ m s r now).1 m.bC (fV m s now) m.bA (gq s r now) r.aK r.fU r.All (now + r.dW)), ((bD s now).bH ++ jZ m s r now)⟩ : ASoft) : ASoft) = (gU m s r now) := by unfold gU rdL; rw [if_pos vo, if_pos hrq]
  have hq8 : ((bD s now).bU : List ABeat) = ((gU m s r now).bU) := by rw [← kT]
  have uj : ((zP (iQ m s r now).1 m.bC (fV m s now) m.bA (gq s r now) r.aK r.fU r.All (now + r.dW)) : List ALease) = ((gU m s r now).bI) := by rw [← kT]
  have jK : (((bD s now).bH ++ jZ m s r now) : List AOrder) = ((gU m s r now).bH) := by rw [← kT]
  have hq11 : ((EX (iQ m s r now).1 ((iQ m s r now).2 ++ jZ m s r now) m.bC (fV m s now) m.bA (gq s r now) r.aK r.fU r.All (now + r.dW)) : List AOrder) = (jH m s r now) := by unfold jH rdO; rw [if_pos vo, if_pos hrq]
  rw [hq11] at yP
  have hq12 : (((jZ m s r now).map gY) : List iT) = (kN m s r now) := by unfold kN; rw [if_pos vo]
  rw [hq12] at yP
  exact ⟨vL, vM, Jq, Jr, NJ, NK, OV, OW, Yi, Yj, by first | (rw [hq11, hq12, hq8, uj, jK] <;> rfl) | (rw [hq8, uj, jK, hq11, hq12] <;> rfl), by rw [← hq8, ← uj, ← jK]; exact (((((((((((((((yP.rm NM).rm s13).rm s12).rm s10).rm s7).rm s6).rm s5).rm s4).rm s1).rm s0).sel s3).sel s2).sel s3).sel s3).sel s4)⟩
 refine WP.skip (aA.norm ?_)
 refine He yC (fun _ K => (K.rm s11)) (fun l0 rk lJ wJ => lJ = (9, .slice Ag4 (((iQ m s r now).2 ++ jZ m s r now).length) cg4) :: (10, .slice Yi (((jZ m s r now).map gY).length) Yj) :: l0 ∧ Hp w S0 wJ [dG g4 31 [.slice vL (((bD s now).bU).length) vM, .slice Yg (((iQ m s r now).1).length) Yh, .slice NJ (((bD s now).bH ++ jZ m s r now).length) NK], dG iZ 81 [.slice vL (((bD s now).bU).length) vM, .slice Yg (((iQ m s r now).1).length) Yh, .slice NJ (((bD s now).bH ++ jZ m s r now).length) NK, .slice ku m.bA.length kC, .slice kD m.bC.length kE, .slice lH m.dS.length lI, .int .i64 r.eG, .int .i64 r.fU, .int .i64 r.All, .int .i64 r.gy, .int .i64 r.dW, .int .i64 r.aK, .int .i64 now, .slice Aj7 ((gq s r now).length) cj7, .slice Aj8 ((fV m s now).length) cj8, .slice Ag4 (((iQ m s r now).2 ++ jZ m s r now).length) cg4, .slice Yi (((jZ m s r now).map gY).length) Yj], aQ tLease 77 Yg Yh ((iQ m s r now).1), aQ tOrder 50 NJ NK ((bD s now).bH ++ jZ m s r now), aQ tOrder 50 Ag4 cg4 ((iQ m s r now).2 ++ jZ m s r now), aQ nI 60 Yi Yj ((jZ m s r now).map gY), fM tNode ku kC m.bA, fM tChunk kD kE m.bC, fM tInt Aj7 cj7 (gq s r now), fM tChunk Aj8 cj8 (fV m s now), fM fP Aj9 cj9 (qy m s r now), aQ tBeat 72 vL vM ((bD s now).bU), dG g3 33 [.int .i64 r.eG, .int .i64 r.fU, .int .i64 r.All, .int .i64 r.gy, .int .i64 r.dW, .int .i64 r.aK], dG g2 31 [.slice qN s.bU.length qO, .slice uQ s.bI.length uR, .slice uS s.bH.length uT], dG g1 26 [.slice ku m.bA.length kC, .slice kD m.bC.length kE, .slice lH m.dS.length lI]]) (fun hns H18 => ?_) ?_
 ·
  have k17 := (H18.rm s11)
  refine Tm 0 1 hns Y Y k17 <| Tn 1 3 hns Y (fun _ _ => Ev.nilCheck Y) k17 <| Tn 2 7 hns Y (fun _ _ => Ev.field (q := ⟨iZ, 0, none⟩) lC Y Y) k17 ?_
  refine Tn 3 15 hns Y (fun _ hK => Ev.oZ (cs' := [.slice vL (((bD s now).bU).length) vM, .slice Yg (((iQ m s r now).1).length) Yh, .slice NJ (((bD s now).bH ++ jZ m s r now).length) NK]) kW Y Y (hK.x s0) Y) k17 ?_
  refine Tm 4 31 hns Y Y k17 <| Tn 5 63 hns Y (fun _ _ => Ev.nilCheck Y) k17 <| Tn 6 127 hns Y (fun _ _ => Ev.field (q := ⟨iZ, 15, none⟩) xS Y Y) k17 ?_
  refine Tn 7 255 hns Y (fun _ hK => Ev.aj gV Y (hK.x s0) Y) k17 <| Tm 8 511 hns Y Y k17 <| Tn 9 1023 hns Y (fun _ _ => Ev.nilCheck Y) k17 ?_
  refine Tn 10 2047 hns Y (fun _ _ => Ev.field (q := ⟨iZ, 16, none⟩) Di Y Y) k17 <| Tn 11 4095 hns Y (fun _ hK => Ev.aj zR Y (hK.x s0) Y) k17 ?_
  refine O1 12 Y ?_
  refine iW Y Y Y rT H18 s11 Y Y fun ZN Bd => ?_
  have k18 := (Bd.rm s0)
  refine WH.next k18 <| Ta 13 16383 hns Y Y k18 <| Ta 14 32767 hns Y Y k18 ?_
  exact Dn ⟨Y, Bd⟩ Y
 rintro _ w30 ⟨rfl, Ah⟩
 refine WP.ret (aA.oG Y ⟨_, _, Y, ⟨_, Y, eH (cs := [.slice vL (((bD s now).bU).length) vM, .slice Yg (((iQ m s r now).1).length) Yh, .slice NJ (((bD s now).bH ++ jZ m s r now).length) NK]) kW Y (Ah.x s0)⟩, ⟨_, _, Y, Y, ⟨_, _, Y, Y, Y⟩⟩⟩ ?_)
 have vo : MO m r = true := by unfold MO; rw [hmay.1, hmay.2]; rfl
 have hrq : TQ m s r now = false := by unfold TQ; first | exact hc101 | (simpa using hc101)
 have qY : ((⟨(bD s now).bU, (iQ m s r now).1, ((bD s now).bH ++ jZ m s r now)⟩ : ASoft) : ASoft) = (gU m s r now) := by unfold gU rdL; rw [if_pos vo, if_neg (by rw [hrq]; decide)]
 have Bf : ((bD s now).bU : List ABeat) = ((gU m s r now).bU) := by rw [← qY]
 have Eb : ((iQ m s r now).1 : List ALease) = ((gU m s r now).bI) := by rw [← qY]
 have Ec : (((bD s now).bH ++ jZ m s r now) : List AOrder) = ((gU m s r now).bH) := by rw [← qY]
 have Ed : (((iQ m s r now).2 ++ jZ m s r now) : List AOrder) = (jH m s r now) := by unfold jH rdO; rw [if_pos vo, if_neg (by rw [hrq]; decide)]
 rw [Ed] at Ah
 have CQ : (((jZ m s r now).map gY) : List iT) = (kN m s r now) := by unfold kN; rw [if_pos vo]
 rw [CQ] at Ah
 exact ⟨vL, vM, Yg, Yh, NJ, NK, Ag4, cg4, Yi, Yj, by first | (rw [Ed, CQ, Bf, Eb, Ec] <;> rfl) | (rw [Bf, Eb, Ec, Ed, CQ] <;> rfl), by rw [← Bf, ← Eb, ← Ec]; exact (((((((((((((((Ah.rm NM).rm s13).rm s12).rm s10).rm s9).rm s8).rm s7).rm s6).rm s1).rm s0).sel s3).sel s3).sel s3).sel s3).sel s4)⟩
end Go.Proofs.YtjcklpooaaaglaaGreat
set_option maxRecDepth 4000
set_option linter.all false
namespace Go.Proofs.YtjcklpooaaaglaaGreat
open Go.RowKit
theorem WK (l : List ANode) (ah : List Int) : ∀ n ∈ aU l ah, sF l = true ∧ n ∈ l ∧ uI ah n = false := by
  intro n hn
  unfold aU at hn
  split at hn
  · rename_i h
    have := List.mem_filter.1 hn
    exact ⟨h, this.1, by simpa using this.2⟩
  · simp at hn
theorem BD : ∀ {l m : List ANode} {z : Int}, m.Sublist l → jQ z l = true → jQ z m = true
  | _, _, _, .slnil, h => h
  | _, _, z, .cons a (l₁ := m) (l₂ := l) hs, h => by
    simp only [jQ, Bool.and_eq_true, Bool.not_eq_true', Bool.or_eq_false_iff, Bool.not_eq_false', decide_eq_false_iff_not] at h
    have h1 := BD hs h.2
    cases m with
    | nil => rfl
    | cons b m =>
      simp only [jQ, Bool.and_eq_true, Bool.not_eq_true', Bool.or_eq_false_iff, Bool.not_eq_false', decide_eq_false_iff_not] at h1 ⊢
      exact ⟨⟨h1.1.1, by omega⟩, h1.2⟩
  | _, _, z, .cons₂ a (l₁ := m) (l₂ := l) hs, h => by
    simp only [jQ, Bool.and_eq_true] at h ⊢
    exact ⟨h.1, BD hs h.2⟩
theorem SQ (l : List ANode) (ah : List Int) : sF (aU l ah) = true := by
  unfold aU; split
  · rename_i h; exact BD List.filter_sublist h
  · rfl
theorem Ce (cs : List AChunk) (l : List ANode) (ah : List Int) : bT cs l ah = (aU l ah).map fun (n : ANode) => ⟨n.ID, (bQ cs n.ID : Int)⟩ := by
  unfold bT iU; rw [if_pos (SQ l ah)]
theorem zV {cs : List AChunk} {l : List ANode} {ah : List Int} {y : ANode} (h : y ∈ aU l ah) : fJ (bT cs l ah) y.ID = (bQ cs y.ID : Int) ∧ (⟨y.ID, (bQ cs y.ID : Int)⟩ : bP) ∈ bT cs l ah := by
  have hm : (⟨y.ID, (bQ cs y.ID : Int)⟩ : bP) ∈ bT cs l ah := by rw [Ce]; exact List.mem_map.2 ⟨y, h, rfl⟩
  refine ⟨?_, hm⟩
  unfold fJ
  cases hf : (bT cs l ah).find? (fun (x : bP) => decide (x.Node = y.ID)) with
  | none => have := List.find?_eq_none.1 hf _ hm; simp at this
  | some x =>
    have h1 := List.find?_some hf
    have h2 := List.mem_of_find?_eq_some hf
    rw [Ce] at h2
    obtain ⟨n, hn, rfl⟩ := List.mem_map.1 h2
    simp at h1
    simp only [h1]
theorem ng {cf : ANode → ANode → Int} {l : List ANode} {x : ANode} : x ∈ pF cf l ↔ x ∈ l := by unfold pF; exact List.mem_mergeSort
theorem tZ {xs ys : List ANode} {p : ANode × ANode} : p ∈ bB xs ys ↔ p.1 ∈ xs ∧ p.2 ∈ ys := by
  obtain ⟨x, y⟩ := p
  simp only [bB, List.mem_flatMap, List.mem_map, Prod.mk.injEq]
  constructor
  · rintro ⟨a, ha, b, hb, rfl, rfl⟩; exact ⟨ha, hb⟩
  · rintro ⟨ha, hb⟩; exact ⟨x, ha, y, hb, rfl, rfl⟩
structure acY (cs : List AChunk) (l : List ANode) (ah : List Int) (bE : Int) (o : AOrder) : Prop where
  may : jA cs = true
  ex : ∃ (x y : ANode) (c : AChunk), x ∈ aU l ah ∧ y ∈ aU l ah ∧ c ∈ cs ∧ bE < bQ cs x.ID - bQ cs y.ID ∧ 1 < (bQ cs x.ID : Int) - bQ cs y.ID ∧ (bQ cs y.ID : Int) < y.fI ∧ jB c l x.ID y.ID = true ∧ o = ⟨0, c.ID, c.ay, c.Sum, x.ID, y.ID, 0⟩
theorem M8 {cs : List AChunk} {l : List ANode} {ah : List Int} {bE : Int} {p : ANode × ANode} {o : AOrder} (h1 : p.1 ∈ aU l ah) (h2 : p.2 ∈ aU l ah) (h : lg cs l (bT cs l ah) bE p = some o) : ∃ c, c ∈ cs ∧ bE < bQ cs p.1.ID - bQ cs p.2.ID ∧ 1 < (bQ cs p.1.ID : Int) - bQ cs p.2.ID ∧ (bQ cs p.2.ID : Int) < p.2.fI ∧ jB c l p.1.ID p.2.ID = true ∧ o = ⟨0, c.ID, c.ay, c.Sum, p.1.ID, p.2.ID, 0⟩ := by
  unfold lg at h
  rw [(zV h1).1, (zV h2).1] at h
  have hm : bE ≤ (if 1 > bE then 1 else bE) ∧ 1 ≤ (if 1 > bE then 1 else bE) := by split <;> omega
  generalize (if 1 > bE then 1 else bE) = m at h hm
  by_cases hc : (bQ cs p.1.ID : Int) - bQ cs p.2.ID ≤ m ∨ p.2.fI ≤ (bQ cs p.2.ID : Int)
  · rw [if_pos hc] at h; cases h
  · rw [if_neg hc] at h
    unfold Ba at h
    cases hf : cs.find? (fun (c : AChunk) => jB c l p.1.ID p.2.ID) with
    | none => rw [hf] at h; cases h
    | some c =>
      rw [hf] at h
      simp only [Option.map_some, Option.some.injEq] at h
      exact ⟨c, List.mem_of_find?_eq_some hf, by omega, by omega, by omega, (by have := List.find?_some hf; simpa using this), h.symm⟩
theorem Ci (cs : List AChunk) (l : List ANode) (ah : List Int) (bE : Int) : (aV cs l ah bE = ⟨0, 0, 0, 0, 0, 0, 0⟩ ∧ moveB cs l ah bE = false) ∨ (acY cs l ah bE (aV cs l ah bE) ∧ moveB cs l ah bE = true) := by
  unfold moveB aV
  by_cases hm : jA cs = true
  · rw [if_pos hm]
    cases hf : (nD cs l ah).findSome? (lg cs l (bT cs l ah) bE) with
    | none => left; exact ⟨rfl, rfl⟩
    | some o =>
      right
      obtain ⟨p, hp, ho⟩ := List.exists_of_findSome?_eq_some hf
      have hp' := tZ.1 hp
      rw [ng, ng] at hp'
      obtain ⟨c, h1, h2, h3, h4, h5, h6⟩ := M8 hp'.1 hp'.2 ho
      refine ⟨⟨hm, p.1, p.2, c, hp'.1, hp'.2, h1, h2, h3, h4, h5, h6⟩, ?_⟩
      have h7 := qm _ _ (j4.1 hm).2.2 c.ID (List.mem_map.2 ⟨c, h1, rfl⟩)
      rw [h6]
      exact decide_eq_true (show 0 < c.ID by omega)
  · rw [if_neg hm]; left; exact ⟨rfl, rfl⟩
end Go.Proofs.YtjcklpooaaaglaaGreat
