/- Texts that the statement needs, with short names. -/
import Derived.Test.YtjcklpooaaaglaaGreatvG8
set_option maxRecDepth 4000
set_option linter.all false
namespace Go.Proofs.YtjcklpooaaaglaaGreat
open Go.RowKit
def OX (c : AChunk) (id u : Int) : AOrder := ⟨1, c.ID, c.ay, c.Sum, id, id, u⟩
def gY (o : AOrder) : iT := ⟨0, 0, 6, o.aB, o.dw, 0⟩
def BA (ls : List ALease) (ks : List AChunk) (ns : List ANode) (ah : List Int) (aJ : Int) (c : AChunk) : Int × Bool := dX c ns ah (aO ks ns ls) aJ
def qP (ls : List ALease) (ks : List AChunk) (ns : List ANode) (ah : List Int) (aJ u : Int) (c : AChunk) : List AOrder := if 0 < (dO ls c.ID).length then [] else if (BA ls ks ns ah aJ c).2 = true then [OX c (BA ls ks ns ah aJ c).1 u] else []
def fA (ls : List ALease) (ks : List AChunk) (ns : List ANode) (ah : List Int) (aJ u : Int) (M : List AChunk) : List AOrder := M.flatMap (qP ls ks ns ah aJ u)
theorem qx {ls : List ALease} {ks : List AChunk} {ns : List ANode} {ah : List Int} {aJ u : Int} {M : List AChunk} {k : Nat} {x : AChunk} (hx : M[k]? = some x) : fA ls ks ns ah aJ u (M.take (k + 1)) = fA ls ks ns ah aJ u (M.take k) ++ qP ls ks ns ah aJ u x := by
  unfold fA; rw [dK hx, List.flatMap_append]; simp
theorem wT (ls : List ALease) (ks : List AChunk) (ns : List ANode) (ah : List Int) (aJ u : Int) : ∀ M : List AChunk, (fA ls ks ns ah aJ u M).length ≤ M.length
  | [] => Nat.le_refl _
  | c :: M => by
    have ih := wT ls ks ns ah aJ u M
    have h1 : (qP ls ks ns ah aJ u c).length ≤ 1 := by unfold qP; split; simp; split <;> simp
    show (qP ls ks ns ah aJ u c ++ fA ls ks ns ah aJ u M).length ≤ _
    rw [List.length_append, List.length_cons]; omega
theorem qj {ls : List ALease} {ks : List AChunk} {ns : List ANode} {ah : List Int} {aJ u : Int} {M : List AChunk} {k : Nat} {x : AChunk} (hx : M[k]? = some x) (h : 0 < (dO ls x.ID).length ∨ (BA ls ks ns ah aJ x).2 = false) : fA ls ks ns ah aJ u (M.take (k + 1)) = fA ls ks ns ah aJ u (M.take k) := by
  rw [qx hx]; unfold qP
  rcases h with h | h
  · rw [if_pos h, List.append_nil]
  · rw [h]; simp
theorem ou {ls : List ALease} {ks : List AChunk} {ns : List ANode} {ah : List Int} {aJ u : Int} {M : List AChunk} {k : Nat} {x : AChunk} (hx : M[k]? = some x) (h : ¬ 0 < (dO ls x.ID).length) (h2 : (BA ls ks ns ah aJ x).2 = true) : fA ls ks ns ah aJ u (M.take (k + 1)) = fA ls ks ns ah aJ u (M.take k) ++ [OX x (BA ls ks ns ah aJ x).1 u] := by
  rw [qx hx]; unfold qP; rw [if_neg h, if_pos h2]
theorem Wi : aM Tryz.prog 82 := fun _ _ => by kernel_rfl
theorem Z8 : aM Tryz.prog 85 := fun _ _ => by kernel_rfl
theorem aff : aM Tryz.prog 88 := fun _ _ => by kernel_rfl
theorem Di : dL Tryz.prog 81 7 16 := fun _ _ => by kernel_rfl
theorem wU (a0 : Int) (a1 : Int) (a2 : Int) : Tryz.prog.built 60 [(2, .int .i64 a0), (3, .int .i64 a1), (4, .int .i64 a2)] = some #[.int .i64 0, .int .i64 0, .int .i64 a0, .int .i64 a1, .int .i64 a2, .int .i64 0] := by kernel_rfl
theorem zR : kH Tryz.prog 37 := fun _ => by kernel_rfl
theorem oz (a0 : Int) (a1 : Int) (a2 : Int) (a3 : Int) (a4 : Int) (a5 : Int) : ∀ w, (Instr.buildSlice 37 1 (List.toArray [(0, .agg #[.int .i64 a0, .int .i64 a1, .int .i64 a2, .int .i64 a3, .int .i64 a4, .int .i64 a5])])).run Tryz.prog w = .ok (.slice (some ⟨w.heap.size, 0, none⟩) 1 1) (w.alloc (.cells (List.toArray [.int .i64 a0, .int .i64 a1, .int .i64 a2, .int .i64 a3, .int .i64 a4, .int .i64 a5]) 60)) := fun _ => by kernel_rfl
theorem Z9 : je Tryz.prog 60 6 48 := by
  obtain ⟨i, h1, h2, h3, h4⟩ := info_parts (show (Tryz.prog.info? 60).map (fun i => (i.zero, i.size, i.bytes)) = some (some (.agg #[.int .i64 0, .int .i64 0, .int .i64 0, .int .i64 0, .int .i64 0, .int .i64 0]), 6, 48) by kernel_rfl)
  exact ⟨i, _, h1, h2, h3, h4, Y⟩
theorem aac : Size Tryz.prog 37 1 := fun _ => by kernel_rfl
set_option maxHeartbeats 2000000 in
theorem SK {b w : World} {S : Nat → Prop} {F : List jP} {g : Nat} {v0 v5 v6 v7 v8 v11 : Value} {AL : an3} {cL : Nat} {ls : List ALease} {AD : an3} {cD : Nat} {ds : List AOrder} {AO : an3} {cO : Nat} {os : List AOrder} {AC : an3} {cC : Nat} {cs : List iT} {AN : an3} {cN : Nat} {ns : List ANode} {AK : an3} {cK : Nat} {ks : List AChunk} {AV : an3} {cV : Nat} {ah : List Int} {AS : an3} {cS : Nat} {aW : List AChunk} {aJ aY now : Int} (H0 : Hp b S w (dG g 81 [v0, .slice AL ls.length cL, .slice AD ds.length cD, .slice AN ns.length cN, .slice AK ks.length cK, v5, v6, v7, v8, .int .i64 aJ, .int .i64 aY, v11, .int .i64 now, .slice AV ah.length cV, .slice AS aW.length cS, .slice AO os.length cO, .slice AC cs.length cC] :: aQ tLease 77 AL cL ls :: aQ tOrder 50 AD cD ds :: aQ tOrder 50 AO cO os :: aQ nI 60 AC cC cs :: fM tNode AN cN ns :: fM tChunk AK cK ks :: fM tInt AV cV ah :: fM tChunk AS cS aW :: F)) (hl : ls.length ≤ 100) (hd : ds.length ≤ 100000) (ho : os.length ≤ 100000) (hq : cs.length ≤ 1000) (hn : ns.length ≤ 1000) (hc : ks.length ≤ 1000) (hs : aW.length ≤ 1000) (hh : ∀ x ∈ aW, x.av.length ≤ 100000) (hu : -1099511627776 ≤ now ∧ now ≤ 4398046511104 ∧ -1099511627776 ≤ aY ∧ aY ≤ 1099511627776) :
    bY Tryz.prog 41 #[.pointer (some ⟨g, 0, none⟩)] w fun v w' => v = .tuple #[] ∧ ∃ AD' cD' Hy Hz AC' cC', Hp b S w' (dG g 81 [v0, .slice AL ls.length cL, .slice AD' ((ds ++ (fA ls ks ns ah aJ (now + aY) aW)).length) cD', .slice AN ns.length cN, .slice AK ks.length cK, v5, v6, v7, v8, .int .i64 aJ, .int .i64 aY, v11, .int .i64 now, .slice AV ah.length cV, .slice AS aW.length cS, .slice Hy ((os ++ (fA ls ks ns ah aJ (now + aY) aW)).length) Hz, .slice AC' ((cs ++ (fA ls ks ns ah aJ (now + aY) aW).map gY).length) cC'] :: aQ tLease 77 AL cL ls :: aQ tOrder 50 AD' cD' (ds ++ (fA ls ks ns ah aJ (now + aY) aW)) :: aQ tOrder 50 Hy Hz (os ++ (fA ls ks ns ah aJ (now + aY) aW)) :: aQ nI 60 AC' cC' (cs ++ (fA ls ks ns ah aJ (now + aY) aW).map gY) :: fM tNode AN cN ns :: fM tChunk AK cK ks :: fM tInt AV cV ah :: fM tChunk AS cS aW :: F) := by
 refine WP.enter Tryz.func41 Y Tryz.ntmps41 Y <| rg <| mv Y <| ev (Ev.nilCheck Y) <| ev (Ev.field (q := ⟨g, 14, none⟩) zQ Y Y) <| ev (Ev.aj nM Y (H0.x s0) Y) <| ev (Ev.len Tryz.underlying23 Y) <| mv Y <| dn <| WP.block ?_
 have hq1 : (ds : List AOrder) = (ds ++ (fA ls ks ns ah aJ (now + aY) (aW.take 0))) := by rw [List.take_zero]; exact (List.append_nil _).symm
 rw [hq1] at H0
 have hq2 : (os : List AOrder) = (os ++ (fA ls ks ns ah aJ (now + aY) (aW.take 0))) := by rw [List.take_zero]; exact (List.append_nil _).symm
 rw [hq2] at H0
 have hq3 : (cs : List iT) = (cs ++ (fA ls ks ns ah aJ (now + aY) (aW.take 0)).map gY) := by rw [List.take_zero]; exact (List.append_nil _).symm
 rw [hq3] at H0
 refine WP.lp (fun mJ lJ wJ => ∃ (k : Nat) (A2 : an3) (c2 : Nat) (um : an3) (c15 : Nat) (A16 : an3) (c16 : Nat), lJ = [(0, .pointer (some ⟨g, 0, none⟩)), (10, .slice AS aW.length cS), (11, .int .i64 ((aW.length : Nat) : Int)), (12, .int .i64 ((k : Nat) : Int))] ∧ mJ = aW.length - k ∧ k ≤ aW.length ∧ Hp b S wJ (aQ tOrder 50 A2 c2 (ds ++ (fA ls ks ns ah aJ (now + aY) (aW.take k))) :: aQ tOrder 50 um c15 (os ++ (fA ls ks ns ah aJ (now + aY) (aW.take k))) :: aQ nI 60 A16 c16 (cs ++ (fA ls ks ns ah aJ (now + aY) (aW.take k)).map gY) :: dG g 81 [v0, .slice AL ls.length cL, .slice A2 ((ds ++ (fA ls ks ns ah aJ (now + aY) (aW.take k))).length) c2, .slice AN ns.length cN, .slice AK ks.length cK, v5, v6, v7, v8, .int .i64 aJ, .int .i64 aY, v11, .int .i64 now, .slice AV ah.length cV, .slice AS aW.length cS, .slice um ((os ++ (fA ls ks ns ah aJ (now + aY) (aW.take k))).length) c15, .slice A16 ((cs ++ (fA ls ks ns ah aJ (now + aY) (aW.take k)).map gY).length) c16] :: aQ tLease 77 AL cL ls :: fM tNode AN cN ns :: fM tChunk AK cK ks :: fM tInt AV cV ah :: fM tChunk AS cS aW :: F)) ⟨0, AD, cD, AO, cO, AC, cC, Y, Y, Nat.zero_le _, (((((H0.sel s1).sel s1).sel s4).sel s4).sel s4)⟩ Y ?_
 rintro _ _ w1 ⟨k, A2, c2, um, c15, A16, c16, rfl, rfl, hk, K1⟩
 refine rg <| ev (Ev.lss Y Y) <| dn ?_
 refine WP.cond Y (fun kr => ?_) (fun kr => ?_)
 ·
  replace kr := of_decide_eq_true kr
  refine WP.skip (aA.norm ?_)
  refine WP.seq <| WP.block ?_
  obtain ⟨x1, hx1⟩ := get_some (xs := aW) (i := k) (by omega)
  have hhx := hh _ (bV hx1)
  have htl := wT ls ks ns ah aJ (now + aY) (aW.take k)
  simp only [List.length_take] at htl
  refine rg <| ev (Ev.index (i := k) Tryz.underlying23 gu Y Y Y (aC hx1) ((K1.s s8).some_ hx1)) ?_
  obtain ⟨B1, d1, kL, hi1⟩ := AChunk.op (K1.is s8 hx1)
  have H1 := K1.push hi1
  refine ev (Ev.loadRow (cs := [.int .i64 x1.ID, .int .i64 x1.ay, .int .u32 x1.Sum, .slice B1 x1.av.length d1]) gQ Y Y (oJ kL)) ?_
  refine al iI Y H1 fun g1 w2 K2 => ?_
  refine iW Y Y Y gu K2 s0 Y Y fun w3 K3 => ?_
  refine dn <| WP.seq <| rg <| mv Y <| ev (Ev.field (q := ⟨g1, 0, none⟩) gI Y Y) <| ev (Ev.aj bf Y (K3.x s0) Y) <| WL.call Y Y Y Wi (Bz (((((((K3.sel s4).sel s4).sel s4).sel s4).sel s4).sel s6).sel s6) (by omega) x1.ID) Y ?_
  rintro _ w4 ⟨Ac1, cc1, rfl, K4⟩
  refine ev (Ev.len Tryz.underlying51 Y) <| ev (Ev.gtr Y Y) <| dn ?_
  refine WP.aG Y (fun hc21 => ?_) (fun hc21 => ?_)
  ·
   replace hc21 := of_decide_eq_true hc21
   refine WP.exit (aA.aF (aA.bS (aA.norm ?_)))
   refine eP <| ev (Ev.add Y Y (eX.mk (by omega) (by omega))) <| mv Y <| eT ?_
   have hq4 : ((ds ++ (fA ls ks ns ah aJ (now + aY) (aW.take k))) : List AOrder) = (ds ++ (fA ls ks ns ah aJ (now + aY) (aW.take (k + 1)))) := by first | rw [qj hx1 (by first | exact .inl (by omega) | exact .inr jT | exact .inr (by simpa [BA] using jT))] | (rw [ou hx1 (by omega) (by first | exact jT | simpa [BA] using jT)]; rw [← List.append_assoc]; rfl)
   rw [hq4] at K4
   have kP : ((os ++ (fA ls ks ns ah aJ (now + aY) (aW.take k))) : List AOrder) = (os ++ (fA ls ks ns ah aJ (now + aY) (aW.take (k + 1)))) := by first | rw [qj hx1 (by first | exact .inl (by omega) | exact .inr jT | exact .inr (by simpa [BA] using jT))] | (rw [ou hx1 (by omega) (by first | exact jT | simpa [BA] using jT)]; rw [← List.append_assoc]; rfl)
   rw [kP] at K4
   have ny : ((cs ++ (fA ls ks ns ah aJ (now + aY) (aW.take k)).map gY) : List iT) = (cs ++ (fA ls ks ns ah aJ (now + aY) (aW.take (k + 1))).map gY) := by first | rw [qj hx1 (by first | exact .inl (by omega) | exact .inr jT | exact .inr (by simpa [BA] using jT))] | (rw [ou hx1 (by omega) (by first | exact jT | simpa [BA] using jT)]; rw [List.map_append, ← List.append_assoc]; rfl)
   rw [ny] at K4
   exact aA.ag ⟨(k + 1), A2, c2, um, c15, A16, c16, Y, Y, by omega, ((((((((K4.rm s4).rm s3).rm s0).sel s1).sel s1).sel s4).sel s4).sel s4)⟩ rfl (by omega)
  replace hc21 := of_decide_eq_false hc21
  refine WP.skip (aA.norm ?_)
  refine He K4 (fun _ K => K) (fun l0 rk lJ wJ => lJ = (4, .int .i64 ((dX x1 ns ah (aO ks ns ls) aJ).1)) :: (5, .bool ((dX x1 ns ah (aO ks ns ls) aJ).2)) :: l0 ∧ Hp b S wJ rk) (fun hns H2 => ?_) ?_
  ·
   refine Tn 0 1 hns Y (fun _ hK => Ev.bX gQ Y Y (hK.x s3)) H2 <| Tm 1 3 hns Y Y H2 <| Tn 2 7 hns Y (fun _ _ => Ev.nilCheck Y) H2 <| Tn 3 15 hns Y (fun _ _ => Ev.field (q := ⟨g, 3, none⟩) uU Y Y) H2 ?_
   refine Tn 4 31 hns Y (fun _ _ => Ev.field (q := ⟨g, 3, none⟩) oq Y Y) H2 <| Tn 5 63 hns Y (fun _ hK => Ev.aj lS Y (hK.x s1) Y) H2 ?_
   refine Tm 6 127 hns Y Y H2 <| Tn 7 255 hns Y (fun _ _ => Ev.nilCheck Y) H2 <| Tn 8 511 hns Y (fun _ _ => Ev.field (q := ⟨g, 13, none⟩) xU Y Y) H2 ?_
   refine Tn 9 1023 hns Y (fun _ hK => Ev.aj gK Y (hK.x s1) Y) H2 <| Tm 10 2047 hns Y Y H2 <| Tm 12 6143 hns Y Y H2 <| Tn 13 14335 hns Y (fun _ _ => Ev.nilCheck Y) H2 ?_
   refine Tn 14 30719 hns Y (fun _ _ => Ev.field (q := ⟨g, 6, none⟩) rW Y Y) H2 <| Tn 15 63487 hns Y (fun _ _ => Ev.field (q := ⟨g, 9, none⟩) rQ Y Y) H2 ?_
   refine Tn 16 129023 hns Y (fun _ hK => Ev.aj bf Y (hK.x s1) Y) H2 <| O1 11 Y <| WL.call Y Y Y Z8 (Hu ((((((((((H2.sel s7).sel s7).sel s7).sel s7).sel s7).sel s5).sel s9).sel s9).sel s9).sel s9) (by omega) (by omega) (by omega)) Y ?_
   rintro _ w5 ⟨Ad1, cd1, rfl, K5⟩
   have k1 := (((((((((((K5.rm s0).sel s3).sel s3).sel s9).sel s9).sel s9).sel s9).sel s9).sel s8).sel s8).sel s9)
   refine WH.next k1 <| O1 17 Y ?_
   refine C0 K5 Y Y Y aff (OG _ x1 (K5.s s7).any (K5.s s3).any (K5.s s11).any (K5.o s0) aJ hhx (by omega)) fun w6 K6 => ?_
   have k2 := (((((((((((K6.rm s0).sel s3).sel s3).sel s9).sel s9).sel s9).sel s9).sel s9).sel s8).sel s8).sel s9)
   refine WH.next k2 <| Tm 18 524287 hns Y Y k2 <| Tn 19 1048575 hns Y (fun _ _ => Ev.extract (vs := [.int .i64 ((dX x1 ns ah (aO ks ns ls) aJ).1), .bool ((dX x1 ns ah (aO ks ns ls) aJ).2)]) Y Y) k2 ?_
   refine Tn 20 2097151 hns Y (fun _ _ => Ev.extract (vs := [.int .i64 ((dX x1 ns ah (aO ks ns ls) aJ).1), .bool ((dX x1 ns ah (aO ks ns ls) aJ).2)]) Y Y) k2 ?_
   refine Ta 21 4194303 hns Y Y k2 <| Ta 22 8388607 hns Y Y k2 ?_
   exact Dn ⟨Y, (((((((((((K6.rm s0).sel s3).sel s3).sel s9).sel s9).sel s9).sel s9).sel s9).sel s8).sel s8).sel s9)⟩ Y
  rintro _ w7 ⟨rfl, K7⟩
  refine WP.seq <| rg <| mv Y <| ev (Ev.not Y) <| dn ?_
  refine WP.aG Y (fun jT => ?_) (fun jT => ?_)
  ·
   try simp only [an4, an5, an6, an7, an8, an9, aoa, aob] at jT
   refine WP.exit (aA.aF (aA.bS (aA.norm ?_)))
   refine eP <| ev (Ev.add Y Y (eX.mk (by omega) (by omega))) <| mv Y <| eT ?_
   have kT : ((ds ++ (fA ls ks ns ah aJ (now + aY) (aW.take k))) : List AOrder) = (ds ++ (fA ls ks ns ah aJ (now + aY) (aW.take (k + 1)))) := by first | rw [qj hx1 (by first | exact .inl (by omega) | exact .inr jT | exact .inr (by simpa [BA] using jT))] | (rw [ou hx1 (by omega) (by first | exact jT | simpa [BA] using jT)]; rw [← List.append_assoc]; rfl)
   rw [kT] at K7
   have hq8 : ((os ++ (fA ls ks ns ah aJ (now + aY) (aW.take k))) : List AOrder) = (os ++ (fA ls ks ns ah aJ (now + aY) (aW.take (k + 1)))) := by first | rw [qj hx1 (by first | exact .inl (by omega) | exact .inr jT | exact .inr (by simpa [BA] using jT))] | (rw [ou hx1 (by omega) (by first | exact jT | simpa [BA] using jT)]; rw [← List.append_assoc]; rfl)
   rw [hq8] at K7
   have uj : ((cs ++ (fA ls ks ns ah aJ (now + aY) (aW.take k)).map gY) : List iT) = (cs ++ (fA ls ks ns ah aJ (now + aY) (aW.take (k + 1))).map gY) := by first | rw [qj hx1 (by first | exact .inl (by omega) | exact .inr jT | exact .inr (by simpa [BA] using jT))] | (rw [ou hx1 (by omega) (by first | exact jT | simpa [BA] using jT)]; rw [List.map_append, ← List.append_assoc]; rfl)
   rw [uj] at K7
   exact aA.ag ⟨(k + 1), A2, c2, um, c15, A16, c16, Y, Y, by omega, ((((((((K7.rm s4).rm s3).rm s0).sel s1).sel s1).sel s4).sel s4).sel s4)⟩ rfl (by omega)
  try simp only [an4, an5, an6, an7, an8, an9, aoa, aob] at jT
  refine WP.skip (aA.norm ?_)
  refine He K7 (fun _ K => K) (fun l0 rk lJ wJ => ∃ (iZ : Nat), lJ = (6, .pointer (some ⟨iZ, 0, none⟩)) :: l0 ∧ Hp b S wJ (dG iZ 50 [.int .i64 1, .int .i64 x1.ID, .int .i64 x1.ay, .int .u32 x1.Sum, .int .i64 ((dX x1 ns ah (aO ks ns ls) aJ).1), .int .i64 ((dX x1 ns ah (aO ks ns ls) aJ).1), .int .i64 (now + aY)] :: rk)) (fun hns H3 => ?_) ?_
  ·
   refine Tn 0 1 hns Y (fun _ _ => Ev.field (q := ⟨g1, 0, none⟩) gI Y Y) H3 <| Tn 1 3 hns Y (fun _ hK => Ev.aj bf Y (hK.x s3) Y) H3 <| Tn 2 7 hns Y (fun _ _ => Ev.field (q := ⟨g1, 1, none⟩) kZ Y Y) H3 ?_
   refine Tn 3 15 hns Y (fun _ hK => Ev.aj bf Y (hK.x s3) Y) H3 <| Tn 4 31 hns Y (fun _ _ => Ev.field (q := ⟨g1, 2, none⟩) rH Y Y) H3 ?_
   refine Tn 5 63 hns Y (fun _ hK => Ev.aj BP Y (hK.x s3) Y) H3 <| Tm 6 127 hns Y Y H3 <| Tm 7 255 hns Y Y H3 <| Tm 8 511 hns Y Y H3 ?_
   refine Tn 9 1023 hns Y (fun _ _ => Ev.nilCheck Y) H3 <| Tn 10 2047 hns Y (fun _ _ => Ev.field (q := ⟨g, 12, none⟩) QB Y Y) H3 <| Tn 11 4095 hns Y (fun _ hK => Ev.aj bf Y (hK.x s1) Y) H3 ?_
   refine Tm 12 8191 hns Y Y H3 <| Tn 13 16383 hns Y (fun _ _ => Ev.nilCheck Y) H3 <| Tn 14 32767 hns Y (fun _ _ => Ev.field (q := ⟨g, 6, none⟩) rW Y Y) H3 ?_
   refine Tn 15 65535 hns Y (fun _ _ => Ev.field (q := ⟨g, 10, none⟩) xP Y Y) H3 <| Tn 16 131071 hns Y (fun _ hK => Ev.aj bf Y (hK.x s1) Y) H3 ?_
   refine Tn 17 262143 hns Y (fun _ _ => Ev.add Y Y (eX.mk (by omega) (by omega))) H3 <| Tn 18 524287 hns Y (fun _ _ => Ev.build (vs := [(0, .int .i64 1), (1, .int .i64 x1.ID), (2, .int .i64 x1.ay), (3, .int .u32 x1.Sum), (4, .int .i64 ((dX x1 ns ah (aO ks ns ls) aJ).1)), (5, .int .i64 ((dX x1 ns ah (aO ks ns ls) aJ).1)), (6, .int .i64 (now + aY))]) (cs := [.int .i64 1, .int .i64 x1.ID, .int .i64 x1.ay, .int .u32 x1.Sum, .int .i64 ((dX x1 ns ah (aO ks ns ls) aJ).1), .int .i64 ((dX x1 ns ah (aO ks ns ls) aJ).1), .int .i64 (now + aY)]) Y (by apply iO)) H3 ?_
   refine O1 19 Y ?_
   refine al jM Y H3 fun g2 w8 K8 => ?_
   have k3 := (K8.rm s0)
   refine WH.next k3 <| O1 20 Y ?_
   refine iW Y Y Y gW K8 s0 Y Y fun w9 K9 => ?_
   have k4 := (K9.rm s0)
   refine WH.next k4 ?_
   exact Dn ⟨g2, Y, K9⟩ Y
  rintro _ J8 ⟨iZ, rfl, K10⟩
  refine He K10 (fun _ K => (((K.rm s7).rm s6).rm s2)) (fun l0 rk lJ wJ => ∃ (o9 : an3) (cj2 : Nat) (Ai : an3) (Aj : Nat), lJ = l0 ∧ Hp b S wJ (dG g 81 [v0, .slice AL ls.length cL, .slice o9 (((ds ++ (fA ls ks ns ah aJ (now + aY) (aW.take k))) ++ ([(⟨1, x1.ID, x1.ay, x1.Sum, (dX x1 ns ah (aO ks ns ls) aJ).1, (dX x1 ns ah (aO ks ns ls) aJ).1, now + aY⟩ : AOrder)] : List AOrder)).length) cj2, .slice AN ns.length cN, .slice AK ks.length cK, v5, v6, v7, v8, .int .i64 aJ, .int .i64 aY, v11, .int .i64 now, .slice AV ah.length cV, .slice AS aW.length cS, .slice Ai (((os ++ (fA ls ks ns ah aJ (now + aY) (aW.take k))) ++ ([(⟨1, x1.ID, x1.ay, x1.Sum, (dX x1 ns ah (aO ks ns ls) aJ).1, (dX x1 ns ah (aO ks ns ls) aJ).1, now + aY⟩ : AOrder)] : List AOrder)).length) Aj, .slice A16 ((cs ++ (fA ls ks ns ah aJ (now + aY) (aW.take k)).map gY).length) c16] :: aQ tOrder 50 o9 cj2 ((ds ++ (fA ls ks ns ah aJ (now + aY) (aW.take k))) ++ ([(⟨1, x1.ID, x1.ay, x1.Sum, (dX x1 ns ah (aO ks ns ls) aJ).1, (dX x1 ns ah (aO ks ns ls) aJ).1, now + aY⟩ : AOrder)] : List AOrder)) :: aQ tOrder 50 Ai Aj ((os ++ (fA ls ks ns ah aJ (now + aY) (aW.take k))) ++ ([(⟨1, x1.ID, x1.ay, x1.Sum, (dX x1 ns ah (aO ks ns ls) aJ).1, (dX x1 ns ah (aO ks ns ls) aJ).1, now + aY⟩ : AOrder)] : List AOrder)) :: rk)) (fun hns H4 => ?_) ?_
  ·
   have k5 := (((H4.rm s7).rm s6).rm s2)
   refine Tm 0 1 hns Y Y k5 <| Tm 1 3 hns Y Y k5 <| Tm 2 7 hns Y Y k5 <| Tn 3 15 hns Y (fun _ _ => Ev.nilCheck Y) k5 <| Tn 4 31 hns Y (fun _ _ => Ev.field (q := ⟨g, 15, none⟩) xS Y Y) k5 <| Tn 6 95 hns Y (fun _ hK => Ev.bX jV Y Y (hK.x s0)) k5 <| Tm 9 607 hns Y Y k5 <| Tn 10 1631 hns Y (fun _ _ => Ev.nilCheck Y) k5 <| Tn 11 3679 hns Y (fun _ _ => Ev.field (q := ⟨g, 0, none⟩) lC Y Y) k5 <| Tn 12 7775 hns Y (fun _ _ => Ev.field (q := ⟨g, 2, none⟩) jc Y Y) k5 <| Tn 14 24159 hns Y (fun _ hK => Ev.bX jV Y Y (hK.x s0)) k5 ?_
   refine Jn (H4.rm s7) (fun l0 rk lJ wJ => ∃ (g4 : Nat) (jg : an3) (jh g3 : Nat), lJ = (72, .slice jg (((os ++ (fA ls ks ns ah aJ (now + aY) (aW.take k))) ++ ([(⟨1, x1.ID, x1.ay, x1.Sum, (dX x1 ns ah (aO ks ns ls) aJ).1, (dX x1 ns ah (aO ks ns ls) aJ).1, now + aY⟩ : AOrder)] : List AOrder)).length) jh) :: (77, .slice A2 ((ds ++ (fA ls ks ns ah aJ (now + aY) (aW.take k))).length) c2) :: (79, .slice (some ⟨g4, 0, none⟩) (([(⟨1, x1.ID, x1.ay, x1.Sum, (dX x1 ns ah (aO ks ns ls) aJ).1, (dX x1 ns ah (aO ks ns ls) aJ).1, now + aY⟩ : AOrder)] : List AOrder).length) 1) :: l0 ∧ Hp b S wJ (aQ tOrder 50 (some ⟨g4, 0, none⟩) 1 ([(⟨1, x1.ID, x1.ay, x1.Sum, (dX x1 ns ah (aO ks ns ls) aJ).1, (dX x1 ns ah (aO ks ns ls) aJ).1, now + aY⟩ : AOrder)] : List AOrder) :: aQ tOrder 50 jg jh ((os ++ (fA ls ks ns ah aJ (now + aY) (aW.take k))) ++ ([(⟨1, x1.ID, x1.ay, x1.Sum, (dX x1 ns ah (aO ks ns ls) aJ).1, (dX x1 ns ah (aO ks ns ls) aJ).1, now + aY⟩ : AOrder)] : List AOrder)) :: aQ tOrder 50 (some ⟨g3, 0, none⟩) 1 ([(⟨1, x1.ID, x1.ay, x1.Sum, (dX x1 ns ah (aO ks ns ls) aJ).1, (dX x1 ns ah (aO ks ns ls) aJ).1, now + aY⟩ : AOrder)] : List AOrder) :: rk)) 8 65535 ?_ fun hS1 => ?_
   ·
    rintro _ w36 ⟨g4, jg, jh, g3, rfl, L6⟩
    refine O1 16 Y ?_
    refine ap (ys := ([(⟨1, x1.ID, x1.ay, x1.Sum, (dX x1 ns ah (aO ks ns ls) aJ).1, (dX x1 ns ah (aO ks ns ls) aJ).1, now + aY⟩ : AOrder)] : List AOrder)) L6 s9 Y Y (L6.o s0) Tryz.underlying29 vK (by simp only [List.length_append, List.length_map]; omega) (by simp) rfl fun Ap6 cp6 w37 L8 => ?_
    have k22 := (((((L8.rm s6).rm s3).rm s2).rm s1).rm s0)
    refine WH.next k22 <| Tn 17 262143 hns Y (fun _ _ => Ev.nilCheck Y) k22 <| Tn 18 524287 hns Y (fun _ _ => Ev.field (q := ⟨g, 15, none⟩) xS Y Y) k22 ?_
    refine O1 19 Y ?_
    refine BK Y Y Y EM L8 s6 Y fun w38 TN => ?_
    have k23 := (((((TN.rm s4).rm s3).rm s2).rm s1).rm s0)
    refine WH.next k23 <| Tn 20 2097151 hns Y (fun _ _ => Ev.nilCheck Y) k23 <| Tn 21 4194303 hns Y (fun _ _ => Ev.field (q := ⟨g, 0, none⟩) lC Y Y) k23 ?_
    refine Tn 22 8388607 hns Y (fun _ _ => Ev.field (q := ⟨g, 2, none⟩) jc Y Y) k23 <| O1 23 Y ?_
    refine BK Y Y Y EM TN s0 Y fun w39 K39 => ?_
    have k24 := (((((K39.rm s4).rm s3).rm s2).rm s1).rm s0)
    refine WH.next k24 ?_
    exact Dn ⟨Ap6, cp6, jg, jh, Y, ((K39.rm s4).rm s2)⟩ Y
   refine Jn (H4.rm s7) (fun l0 rk lJ wJ => ∃ (jg : an3) (jh g3 : Nat), lJ = (72, .slice jg (((os ++ (fA ls ks ns ah aJ (now + aY) (aW.take k))) ++ ([(⟨1, x1.ID, x1.ay, x1.Sum, (dX x1 ns ah (aO ks ns ls) aJ).1, (dX x1 ns ah (aO ks ns ls) aJ).1, now + aY⟩ : AOrder)] : List AOrder)).length) jh) :: (77, .slice A2 ((ds ++ (fA ls ks ns ah aJ (now + aY) (aW.take k))).length) c2) :: l0 ∧ Hp b S wJ (aQ tOrder 50 jg jh ((os ++ (fA ls ks ns ah aJ (now + aY) (aW.take k))) ++ ([(⟨1, x1.ID, x1.ay, x1.Sum, (dX x1 ns ah (aO ks ns ls) aJ).1, (dX x1 ns ah (aO ks ns ls) aJ).1, now + aY⟩ : AOrder)] : List AOrder)) :: aQ tOrder 50 (some ⟨g3, 0, none⟩) 1 ([(⟨1, x1.ID, x1.ay, x1.Sum, (dX x1 ns ah (aO ks ns ls) aJ).1, (dX x1 ns ah (aO ks ns ls) aJ).1, now + aY⟩ : AOrder)] : List AOrder) :: rk)) 9 32767 ?_ fun hS2 => ?_
   ·
    rintro _ w40 ⟨jg, jh, g3, rfl, K40⟩
    refine O1 15 Y ?_
    refine ni (τ := tOrder) (x := (⟨1, x1.ID, x1.ay, x1.Sum, (dX x1 ns ah (aO ks ns ls) aJ).1, (dX x1 ns ah (aO ks ns ls) aJ).1, now + aY⟩ : AOrder)) Y (by intro _; apply cB) rfl K40 (fun _ _ => rfl) fun g21 w41 Y6 => ?_
    have k25 := (((((Y6.rm s9).rm s5).rm s2).rm s1).rm s0)
    exact Kj hS1 k25 ⟨g21, jg, jh, g3, Y, Y6⟩ Y
   refine Jn (H4.rm s7) (fun l0 rk lJ wJ => ∃ (g5 : Nat) (jg : an3) (jh g3 : Nat), lJ = (72, .slice jg (((os ++ (fA ls ks ns ah aJ (now + aY) (aW.take k))) ++ ([(⟨1, x1.ID, x1.ay, x1.Sum, (dX x1 ns ah (aO ks ns ls) aJ).1, (dX x1 ns ah (aO ks ns ls) aJ).1, now + aY⟩ : AOrder)] : List AOrder)).length) jh) :: (79, .slice (some ⟨g5, 0, none⟩) (([(⟨1, x1.ID, x1.ay, x1.Sum, (dX x1 ns ah (aO ks ns ls) aJ).1, (dX x1 ns ah (aO ks ns ls) aJ).1, now + aY⟩ : AOrder)] : List AOrder).length) 1) :: l0 ∧ Hp b S wJ (aQ tOrder 50 (some ⟨g5, 0, none⟩) 1 ([(⟨1, x1.ID, x1.ay, x1.Sum, (dX x1 ns ah (aO ks ns ls) aJ).1, (dX x1 ns ah (aO ks ns ls) aJ).1, now + aY⟩ : AOrder)] : List AOrder) :: aQ tOrder 50 jg jh ((os ++ (fA ls ks ns ah aJ (now + aY) (aW.take k))) ++ ([(⟨1, x1.ID, x1.ay, x1.Sum, (dX x1 ns ah (aO ks ns ls) aJ).1, (dX x1 ns ah (aO ks ns ls) aJ).1, now + aY⟩ : AOrder)] : List AOrder)) :: aQ tOrder 50 (some ⟨g3, 0, none⟩) 1 ([(⟨1, x1.ID, x1.ay, x1.Sum, (dX x1 ns ah (aO ks ns ls) aJ).1, (dX x1 ns ah (aO ks ns ls) aJ).1, now + aY⟩ : AOrder)] : List AOrder) :: rk)) 9 57343 ?_ fun hS3 => ?_
   ·
    rintro _ w42 ⟨g5, jg, jh, g3, rfl, SL⟩
    refine O1 13 Y <| ev (Ev.aj gV Y (SL.x s5) Y) ?_
    have k26 := (((((SL.rm s9).rm s5).rm s2).rm s1).rm s0)
    exact Kj hS1 k26 ⟨g5, jg, jh, g3, Y, SL⟩ Y
   refine Jn H4 (fun l0 rk lJ wJ => ∃ (g6 g3 : Nat), lJ = (69, .slice um ((os ++ (fA ls ks ns ah aJ (now + aY) (aW.take k))).length) c15) :: (71, .slice (some ⟨g3, 0, none⟩) (([(⟨1, x1.ID, x1.ay, x1.Sum, (dX x1 ns ah (aO ks ns ls) aJ).1, (dX x1 ns ah (aO ks ns ls) aJ).1, now + aY⟩ : AOrder)] : List AOrder).length) 1) :: (77, .slice A2 ((ds ++ (fA ls ks ns ah aJ (now + aY) (aW.take k))).length) c2) :: (79, .slice (some ⟨g6, 0, none⟩) (([(⟨1, x1.ID, x1.ay, x1.Sum, (dX x1 ns ah (aO ks ns ls) aJ).1, (dX x1 ns ah (aO ks ns ls) aJ).1, now + aY⟩ : AOrder)] : List AOrder).length) 1) :: l0 ∧ Hp b S wJ (aQ tOrder 50 (some ⟨g6, 0, none⟩) 1 ([(⟨1, x1.ID, x1.ay, x1.Sum, (dX x1 ns ah (aO ks ns ls) aJ).1, (dX x1 ns ah (aO ks ns ls) aJ).1, now + aY⟩ : AOrder)] : List AOrder) :: aQ tOrder 50 (some ⟨g3, 0, none⟩) 1 ([(⟨1, x1.ID, x1.ay, x1.Sum, (dX x1 ns ah (aO ks ns ls) aJ).1, (dX x1 ns ah (aO ks ns ls) aJ).1, now + aY⟩ : AOrder)] : List AOrder) :: rk)) 9 65279 ?_ fun hS4 => ?_
   ·
    rintro _ w43 ⟨g6, g3, rfl, Yc⟩
    refine O1 8 Y ?_
    refine ap (ys := ([(⟨1, x1.ID, x1.ay, x1.Sum, (dX x1 ns ah (aO ks ns ls) aJ).1, (dX x1 ns ah (aO ks ns ls) aJ).1, now + aY⟩ : AOrder)] : List AOrder)) Yc s9 Y Y (Yc.o s1) Tryz.underlying29 vK (by simp only [List.length_append, List.length_map]; omega) (by simp) rfl fun Ap7 cp7 w44 NI => ?_
    have k27 := (((((NI.rm s9).rm s5).rm s2).rm s1).rm s0)
    exact Kj hS1 k27 ⟨g6, Ap7, cp7, g3, Y, ((NI.sel s0).sel s1)⟩ Y
   refine Jn H4 (fun l0 rk lJ wJ => ∃ (g3 : Nat), lJ = (69, .slice um ((os ++ (fA ls ks ns ah aJ (now + aY) (aW.take k))).length) c15) :: (71, .slice (some ⟨g3, 0, none⟩) (([(⟨1, x1.ID, x1.ay, x1.Sum, (dX x1 ns ah (aO ks ns ls) aJ).1, (dX x1 ns ah (aO ks ns ls) aJ).1, now + aY⟩ : AOrder)] : List AOrder).length) 1) :: (77, .slice A2 ((ds ++ (fA ls ks ns ah aJ (now + aY) (aW.take k))).length) c2) :: l0 ∧ Hp b S wJ (aQ tOrder 50 (some ⟨g3, 0, none⟩) 1 ([(⟨1, x1.ID, x1.ay, x1.Sum, (dX x1 ns ah (aO ks ns ls) aJ).1, (dX x1 ns ah (aO ks ns ls) aJ).1, now + aY⟩ : AOrder)] : List AOrder) :: rk)) 10 32511 ?_ fun hS5 => ?_
   ·
    rintro _ w45 ⟨g3, rfl, Dj⟩
    refine O2 8 15 Y Y ?_ ?_
    ·
     refine ap (ys := ([(⟨1, x1.ID, x1.ay, x1.Sum, (dX x1 ns ah (aO ks ns ls) aJ).1, (dX x1 ns ah (aO ks ns ls) aJ).1, now + aY⟩ : AOrder)] : List AOrder)) Dj s8 Y Y (Dj.o s0) Tryz.underlying29 vK (by simp only [List.length_append, List.length_map]; omega) (by simp) rfl fun Ap8 cp8 w46 Yd => ?_
     have k28 := ((((Yd.rm s8).rm s4).rm s1).rm s0)
     exact Kj hS2 k28 ⟨Ap8, cp8, g3, Y, Yd⟩ Y
    ·
     refine ni (τ := tOrder) (x := (⟨1, x1.ID, x1.ay, x1.Sum, (dX x1 ns ah (aO ks ns ls) aJ).1, (dX x1 ns ah (aO ks ns ls) aJ).1, now + aY⟩ : AOrder)) Y (by intro _; apply cB) rfl Dj (fun _ _ => rfl) fun g22 w47 K47 => ?_
     have k29 := (((((K47.rm s9).rm s8).rm s4).rm s1).rm s0)
     exact Kj hS4 k29 ⟨g22, g3, Y, K47⟩ Y
   refine Jn H4 (fun l0 rk lJ wJ => ∃ (g7 g3 : Nat), lJ = (69, .slice um ((os ++ (fA ls ks ns ah aJ (now + aY) (aW.take k))).length) c15) :: (71, .slice (some ⟨g3, 0, none⟩) (([(⟨1, x1.ID, x1.ay, x1.Sum, (dX x1 ns ah (aO ks ns ls) aJ).1, (dX x1 ns ah (aO ks ns ls) aJ).1, now + aY⟩ : AOrder)] : List AOrder).length) 1) :: (79, .slice (some ⟨g7, 0, none⟩) (([(⟨1, x1.ID, x1.ay, x1.Sum, (dX x1 ns ah (aO ks ns ls) aJ).1, (dX x1 ns ah (aO ks ns ls) aJ).1, now + aY⟩ : AOrder)] : List AOrder).length) 1) :: l0 ∧ Hp b S wJ (aQ tOrder 50 (some ⟨g7, 0, none⟩) 1 ([(⟨1, x1.ID, x1.ay, x1.Sum, (dX x1 ns ah (aO ks ns ls) aJ).1, (dX x1 ns ah (aO ks ns ls) aJ).1, now + aY⟩ : AOrder)] : List AOrder) :: aQ tOrder 50 (some ⟨g3, 0, none⟩) 1 ([(⟨1, x1.ID, x1.ay, x1.Sum, (dX x1 ns ah (aO ks ns ls) aJ).1, (dX x1 ns ah (aO ks ns ls) aJ).1, now + aY⟩ : AOrder)] : List AOrder) :: rk)) 10 57087 ?_ fun hS6 => ?_
   ·
    rintro _ w48 ⟨g7, g3, rfl, Ye⟩
    refine O2 8 13 Y Y ?_ ?_
    ·
     refine ap (ys := ([(⟨1, x1.ID, x1.ay, x1.Sum, (dX x1 ns ah (aO ks ns ls) aJ).1, (dX x1 ns ah (aO ks ns ls) aJ).1, now + aY⟩ : AOrder)] : List AOrder)) Ye s9 Y Y (Ye.o s1) Tryz.underlying29 vK (by simp only [List.length_append, List.length_map]; omega) (by simp) rfl fun Ap9 cp9 w49 K49 => ?_
     have k30 := (((((K49.rm s9).rm s5).rm s2).rm s1).rm s0)
     exact Kj hS3 k30 ⟨g7, Ap9, cp9, g3, Y, ((K49.sel s0).sel s1)⟩ Y
    ·
     refine ev (Ev.aj gV Y (Ye.x s4) Y) ?_
     have k31 := (((((Ye.rm s9).rm s8).rm s4).rm s1).rm s0)
     exact Kj hS4 k31 ⟨g7, g3, Y, Ye⟩ Y
   refine Jn H4 (fun l0 rk lJ wJ => ∃ (g9 : Nat), lJ = (69, .slice um ((os ++ (fA ls ks ns ah aJ (now + aY) (aW.take k))).length) c15) :: (77, .slice A2 ((ds ++ (fA ls ks ns ah aJ (now + aY) (aW.take k))).length) c2) :: (79, .slice (some ⟨g9, 0, none⟩) (([(⟨1, x1.ID, x1.ay, x1.Sum, (dX x1 ns ah (aO ks ns ls) aJ).1, (dX x1 ns ah (aO ks ns ls) aJ).1, now + aY⟩ : AOrder)] : List AOrder).length) 1) :: l0 ∧ Hp b S wJ (aQ tOrder 50 (some ⟨g9, 0, none⟩) 1 ([(⟨1, x1.ID, x1.ay, x1.Sum, (dX x1 ns ah (aO ks ns ls) aJ).1, (dX x1 ns ah (aO ks ns ls) aJ).1, now + aY⟩ : AOrder)] : List AOrder) :: rk)) 10 65151 ?_ fun hS7 => ?_
   ·
    rintro _ w50 ⟨g9, rfl, K50⟩
    refine O1 7 Y ?_
    refine ni (τ := tOrder) (x := (⟨1, x1.ID, x1.ay, x1.Sum, (dX x1 ns ah (aO ks ns ls) aJ).1, (dX x1 ns ah (aO ks ns ls) aJ).1, now + aY⟩ : AOrder)) Y (by intro _; apply cB) rfl K50 (fun _ _ => rfl) fun g23 w51 K51 => ?_
    have k32 := (((((K51.rm s9).rm s8).rm s4).rm s1).rm s0)
    exact Kj hS4 k32 ⟨g9, g23, Y, ((K51.sel s0).sel s1)⟩ Y
   refine Jn H4 (fun l0 rk lJ wJ => ∃ (g14 g13 : Nat), lJ = (71, .slice (some ⟨g13, 0, none⟩) (([(⟨1, x1.ID, x1.ay, x1.Sum, (dX x1 ns ah (aO ks ns ls) aJ).1, (dX x1 ns ah (aO ks ns ls) aJ).1, now + aY⟩ : AOrder)] : List AOrder).length) 1) :: (77, .slice A2 ((ds ++ (fA ls ks ns ah aJ (now + aY) (aW.take k))).length) c2) :: (79, .slice (some ⟨g14, 0, none⟩) (([(⟨1, x1.ID, x1.ay, x1.Sum, (dX x1 ns ah (aO ks ns ls) aJ).1, (dX x1 ns ah (aO ks ns ls) aJ).1, now + aY⟩ : AOrder)] : List AOrder).length) 1) :: l0 ∧ Hp b S wJ (aQ tOrder 50 (some ⟨g14, 0, none⟩) 1 ([(⟨1, x1.ID, x1.ay, x1.Sum, (dX x1 ns ah (aO ks ns ls) aJ).1, (dX x1 ns ah (aO ks ns ls) aJ).1, now + aY⟩ : AOrder)] : List AOrder) :: aQ tOrder 50 (some ⟨g13, 0, none⟩) 1 ([(⟨1, x1.ID, x1.ay, x1.Sum, (dX x1 ns ah (aO ks ns ls) aJ).1, (dX x1 ns ah (aO ks ns ls) aJ).1, now + aY⟩ : AOrder)] : List AOrder) :: rk)) 10 65247 ?_ fun hS8 => ?_
   ·
    rintro _ w52 ⟨g14, g13, rfl, K52⟩
    refine O1 5 Y <| ev (Ev.aj gV Y (K52.x s4) Y) ?_
    have k33 := (((((K52.rm s9).rm s8).rm s4).rm s1).rm s0)
    exact Kj hS4 k33 ⟨g14, g13, Y, K52⟩ Y
   refine Jn H4 (fun l0 rk lJ wJ => ∃ (g3 : Nat), lJ = (69, .slice um ((os ++ (fA ls ks ns ah aJ (now + aY) (aW.take k))).length) c15) :: (71, .slice (some ⟨g3, 0, none⟩) (([(⟨1, x1.ID, x1.ay, x1.Sum, (dX x1 ns ah (aO ks ns ls) aJ).1, (dX x1 ns ah (aO ks ns ls) aJ).1, now + aY⟩ : AOrder)] : List AOrder).length) 1) :: l0 ∧ Hp b S wJ (aQ tOrder 50 (some ⟨g3, 0, none⟩) 1 ([(⟨1, x1.ID, x1.ay, x1.Sum, (dX x1 ns ah (aO ks ns ls) aJ).1, (dX x1 ns ah (aO ks ns ls) aJ).1, now + aY⟩ : AOrder)] : List AOrder) :: rk)) 11 24319 ?_ fun hS9 => ?_
   ·
    rintro _ w53 ⟨g3, rfl, TP⟩
    refine WH.all (fuel := 10) (rs := [8, 13, 15]) (by kernel_rfl) (by decide) ?_
    simp only [List.forall_mem_cons, List.not_mem_nil, false_implies, implies_true, and_true]
    refine ⟨?_, ?_, ?_⟩
    ·
     refine ⟨_, Y, ?_⟩
     refine ap (ys := ([(⟨1, x1.ID, x1.ay, x1.Sum, (dX x1 ns ah (aO ks ns ls) aJ).1, (dX x1 ns ah (aO ks ns ls) aJ).1, now + aY⟩ : AOrder)] : List AOrder)) TP s8 Y Y (TP.o s0) Tryz.underlying29 vK (by simp only [List.length_append, List.length_map]; omega) (by simp) rfl fun afm afn w54 Yf => ?_
     have k34 := ((((Yf.rm s8).rm s4).rm s1).rm s0)
     refine WH.next k34 ?_
     refine O2 13 15 Y Y ?_ ?_
     ·
      refine ev (Ev.aj gV Y (Yf.x s4) Y) ?_
      exact Kj hS2 k34 ⟨afm, afn, g3, Y, Yf⟩ Y
     ·
      refine ni (τ := tOrder) (x := (⟨1, x1.ID, x1.ay, x1.Sum, (dX x1 ns ah (aO ks ns ls) aJ).1, (dX x1 ns ah (aO ks ns ls) aJ).1, now + aY⟩ : AOrder)) Y (by intro _; apply cB) rfl Yf (fun _ _ => rfl) fun g24 w55 K55 => ?_
      have k35 := (((((K55.rm s9).rm s5).rm s2).rm s1).rm s0)
      exact Kj hS3 k35 ⟨g24, afm, afn, g3, Y, K55⟩ Y
    ·
     refine ⟨_, Y, ?_⟩
     refine ev (Ev.aj gV Y (TP.x s3) Y) ?_
     have k36 := ((((TP.rm s8).rm s7).rm s3).rm s0)
     exact Kj hS5 k36 ⟨g3, Y, TP⟩ Y
    ·
     refine ⟨_, Y, ?_⟩
     refine ni (τ := tOrder) (x := (⟨1, x1.ID, x1.ay, x1.Sum, (dX x1 ns ah (aO ks ns ls) aJ).1, (dX x1 ns ah (aO ks ns ls) aJ).1, now + aY⟩ : AOrder)) Y (by intro _; apply cB) rfl TP (fun _ _ => rfl) fun g25 w56 K56 => ?_
     have k37 := (((((K56.rm s9).rm s8).rm s4).rm s1).rm s0)
     exact Kj hS6 k37 ⟨g25, g3, Y, K56⟩ Y
   refine Jn H4 (fun l0 rk lJ wJ => lJ = (69, .slice um ((os ++ (fA ls ks ns ah aJ (now + aY) (aW.take k))).length) c15) :: (77, .slice A2 ((ds ++ (fA ls ks ns ah aJ (now + aY) (aW.take k))).length) c2) :: l0 ∧ Hp b S wJ rk) 11 32383 ?_ fun afo => ?_
   ·
    rintro _ w57 ⟨rfl, K57⟩
    refine O2 7 15 Y Y ?_ ?_
    ·
     refine ni (τ := tOrder) (x := (⟨1, x1.ID, x1.ay, x1.Sum, (dX x1 ns ah (aO ks ns ls) aJ).1, (dX x1 ns ah (aO ks ns ls) aJ).1, now + aY⟩ : AOrder)) Y (by intro _; apply cB) rfl K57 (fun _ _ => rfl) fun g26 w58 K58 => ?_
     have k38 := ((((K58.rm s8).rm s7).rm s3).rm s0)
     exact Kj hS5 k38 ⟨g26, Y, K58⟩ Y
    ·
     refine ni (τ := tOrder) (x := (⟨1, x1.ID, x1.ay, x1.Sum, (dX x1 ns ah (aO ks ns ls) aJ).1, (dX x1 ns ah (aO ks ns ls) aJ).1, now + aY⟩ : AOrder)) Y (by intro _; apply cB) rfl K57 (fun _ _ => rfl) fun g27 w59 K59 => ?_
     have k39 := ((((K59.rm s8).rm s7).rm s3).rm s0)
     exact Kj hS7 k39 ⟨g27, Y, K59⟩ Y
   refine Jn H4 (fun l0 rk lJ wJ => ∃ (g11 : Nat), lJ = (69, .slice um ((os ++ (fA ls ks ns ah aJ (now + aY) (aW.take k))).length) c15) :: (79, .slice (some ⟨g11, 0, none⟩) (([(⟨1, x1.ID, x1.ay, x1.Sum, (dX x1 ns ah (aO ks ns ls) aJ).1, (dX x1 ns ah (aO ks ns ls) aJ).1, now + aY⟩ : AOrder)] : List AOrder).length) 1) :: l0 ∧ Hp b S wJ (aQ tOrder 50 (some ⟨g11, 0, none⟩) 1 ([(⟨1, x1.ID, x1.ay, x1.Sum, (dX x1 ns ah (aO ks ns ls) aJ).1, (dX x1 ns ah (aO ks ns ls) aJ).1, now + aY⟩ : AOrder)] : List AOrder) :: rk)) 11 56959 ?_ fun afq => ?_
   ·
    rintro _ w60 ⟨g11, rfl, K60⟩
    refine O2 7 13 Y Y ?_ ?_
    ·
     refine ni (τ := tOrder) (x := (⟨1, x1.ID, x1.ay, x1.Sum, (dX x1 ns ah (aO ks ns ls) aJ).1, (dX x1 ns ah (aO ks ns ls) aJ).1, now + aY⟩ : AOrder)) Y (by intro _; apply cB) rfl K60 (fun _ _ => rfl) fun g28 w61 K61 => ?_
     have k40 := (((((K61.rm s9).rm s8).rm s4).rm s1).rm s0)
     exact Kj hS6 k40 ⟨g11, g28, Y, ((K61.sel s0).sel s1)⟩ Y
    ·
     refine ev (Ev.aj gV Y (K60.x s3) Y) ?_
     have k41 := ((((K60.rm s8).rm s7).rm s3).rm s0)
     exact Kj hS7 k41 ⟨g11, Y, K60⟩ Y
   refine Jn H4 (fun l0 rk lJ wJ => ∃ (g13 : Nat), lJ = (71, .slice (some ⟨g13, 0, none⟩) (([(⟨1, x1.ID, x1.ay, x1.Sum, (dX x1 ns ah (aO ks ns ls) aJ).1, (dX x1 ns ah (aO ks ns ls) aJ).1, now + aY⟩ : AOrder)] : List AOrder).length) 1) :: (77, .slice A2 ((ds ++ (fA ls ks ns ah aJ (now + aY) (aW.take k))).length) c2) :: l0 ∧ Hp b S wJ (aQ tOrder 50 (some ⟨g13, 0, none⟩) 1 ([(⟨1, x1.ID, x1.ay, x1.Sum, (dX x1 ns ah (aO ks ns ls) aJ).1, (dX x1 ns ah (aO ks ns ls) aJ).1, now + aY⟩ : AOrder)] : List AOrder) :: rk)) 11 32479 ?_ fun afr => ?_
   ·
    rintro _ w62 ⟨g13, rfl, K62⟩
    refine O2 5 15 Y Y ?_ ?_
    ·
     refine ev (Ev.aj gV Y (K62.x s3) Y) ?_
     have k42 := ((((K62.rm s8).rm s7).rm s3).rm s0)
     exact Kj hS5 k42 ⟨g13, Y, K62⟩ Y
    ·
     refine ni (τ := tOrder) (x := (⟨1, x1.ID, x1.ay, x1.Sum, (dX x1 ns ah (aO ks ns ls) aJ).1, (dX x1 ns ah (aO ks ns ls) aJ).1, now + aY⟩ : AOrder)) Y (by intro _; apply cB) rfl K62 (fun _ _ => rfl) fun g29 w63 K63 => ?_
     have k43 := (((((K63.rm s9).rm s8).rm s4).rm s1).rm s0)
     exact Kj hS8 k43 ⟨g29, g13, Y, K63⟩ Y
   refine Jn H4 (fun l0 rk lJ wJ => ∃ (g15 g13 : Nat), lJ = (71, .slice (some ⟨g13, 0, none⟩) (([(⟨1, x1.ID, x1.ay, x1.Sum, (dX x1 ns ah (aO ks ns ls) aJ).1, (dX x1 ns ah (aO ks ns ls) aJ).1, now + aY⟩ : AOrder)] : List AOrder).length) 1) :: (79, .slice (some ⟨g15, 0, none⟩) (([(⟨1, x1.ID, x1.ay, x1.Sum, (dX x1 ns ah (aO ks ns ls) aJ).1, (dX x1 ns ah (aO ks ns ls) aJ).1, now + aY⟩ : AOrder)] : List AOrder).length) 1) :: l0 ∧ Hp b S wJ (aQ tOrder 50 (some ⟨g15, 0, none⟩) 1 ([(⟨1, x1.ID, x1.ay, x1.Sum, (dX x1 ns ah (aO ks ns ls) aJ).1, (dX x1 ns ah (aO ks ns ls) aJ).1, now + aY⟩ : AOrder)] : List AOrder) :: aQ tOrder 50 (some ⟨g13, 0, none⟩) 1 ([(⟨1, x1.ID, x1.ay, x1.Sum, (dX x1 ns ah (aO ks ns ls) aJ).1, (dX x1 ns ah (aO ks ns ls) aJ).1, now + aY⟩ : AOrder)] : List AOrder) :: rk)) 11 57055 ?_ fun afs => ?_
   ·
    rintro _ w64 ⟨g15, g13, rfl, K64⟩
    refine O2 5 13 Y Y ?_ ?_
    ·
     refine ev (Ev.aj gV Y (K64.x s4) Y) ?_
     have k44 := (((((K64.rm s9).rm s8).rm s4).rm s1).rm s0)
     exact Kj hS6 k44 ⟨g15, g13, Y, K64⟩ Y
    ·
     refine ev (Ev.aj gV Y (K64.x s4) Y) ?_
     have k45 := (((((K64.rm s9).rm s8).rm s4).rm s1).rm s0)
     exact Kj hS8 k45 ⟨g15, g13, Y, K64⟩ Y
   refine Jn H4 (fun l0 rk lJ wJ => ∃ (g17 : Nat), lJ = (77, .slice A2 ((ds ++ (fA ls ks ns ah aJ (now + aY) (aW.take k))).length) c2) :: (79, .slice (some ⟨g17, 0, none⟩) (([(⟨1, x1.ID, x1.ay, x1.Sum, (dX x1 ns ah (aO ks ns ls) aJ).1, (dX x1 ns ah (aO ks ns ls) aJ).1, now + aY⟩ : AOrder)] : List AOrder).length) 1) :: l0 ∧ Hp b S wJ (aQ tOrder 50 (some ⟨g17, 0, none⟩) 1 ([(⟨1, x1.ID, x1.ay, x1.Sum, (dX x1 ns ah (aO ks ns ls) aJ).1, (dX x1 ns ah (aO ks ns ls) aJ).1, now + aY⟩ : AOrder)] : List AOrder) :: rk)) 11 65119 ?_ fun afu => ?_
   ·
    rintro _ w65 ⟨g17, rfl, K65⟩
    refine O2 5 7 Y Y ?_ ?_
    ·
     refine ev (Ev.aj gV Y (K65.x s3) Y) ?_
     have k46 := ((((K65.rm s8).rm s7).rm s3).rm s0)
     exact Kj hS7 k46 ⟨g17, Y, K65⟩ Y
    ·
     refine ni (τ := tOrder) (x := (⟨1, x1.ID, x1.ay, x1.Sum, (dX x1 ns ah (aO ks ns ls) aJ).1, (dX x1 ns ah (aO ks ns ls) aJ).1, now + aY⟩ : AOrder)) Y (by intro _; apply cB) rfl K65 (fun _ _ => rfl) fun g30 w66 K66 => ?_
     have k47 := (((((K66.rm s9).rm s8).rm s4).rm s1).rm s0)
     exact Kj hS8 k47 ⟨g17, g30, Y, ((K66.sel s0).sel s1)⟩ Y
   refine WH.all (fuel := 12) (rs := [5, 7, 13, 15]) (by kernel_rfl) (by decide) ?_
   simp only [List.forall_mem_cons, List.not_mem_nil, false_implies, implies_true, and_true]
   refine ⟨?_, ?_, ?_, ?_⟩
   ·
    refine ⟨_, Y, ?_⟩
    refine ev (Ev.aj gV Y (H4.x s2) Y) <| WH.next k5 <| WH.all (fuel := 11) (rs := [7, 13, 15]) (by kernel_rfl) (by decide) ?_
    simp only [List.forall_mem_cons, List.not_mem_nil, false_implies, implies_true, and_true]
    refine ⟨?_, ?_, ?_⟩
    ·
     refine ⟨_, Y, ?_⟩
     refine ni (τ := tOrder) (x := (⟨1, x1.ID, x1.ay, x1.Sum, (dX x1 ns ah (aO ks ns ls) aJ).1, (dX x1 ns ah (aO ks ns ls) aJ).1, now + aY⟩ : AOrder)) Y (by intro _; apply cB) rfl H4 (fun _ _ => rfl) fun g31 w67 K67 => ?_
     have k48 := ((((K67.rm s8).rm s7).rm s3).rm s0)
     exact Kj hS9 k48 ⟨g31, Y, K67⟩ Y
    ·
     refine ⟨_, Y, ?_⟩
     refine ev (Ev.aj gV Y (H4.x s2) Y) ?_
     exact Kj afo k5 ⟨Y, H4⟩ Y
    ·
     refine ⟨_, Y, ?_⟩
     refine ni (τ := tOrder) (x := (⟨1, x1.ID, x1.ay, x1.Sum, (dX x1 ns ah (aO ks ns ls) aJ).1, (dX x1 ns ah (aO ks ns ls) aJ).1, now + aY⟩ : AOrder)) Y (by intro _; apply cB) rfl H4 (fun _ _ => rfl) fun g32 w68 K68 => ?_
     have k49 := ((((K68.rm s8).rm s7).rm s3).rm s0)
     exact Kj afq k49 ⟨g32, Y, K68⟩ Y
   ·
    refine ⟨_, Y, ?_⟩
    refine ni (τ := tOrder) (x := (⟨1, x1.ID, x1.ay, x1.Sum, (dX x1 ns ah (aO ks ns ls) aJ).1, (dX x1 ns ah (aO ks ns ls) aJ).1, now + aY⟩ : AOrder)) Y (by intro _; apply cB) rfl H4 (fun _ _ => rfl) fun g33 w69 K69 => ?_
    have k50 := ((((K69.rm s8).rm s7).rm s3).rm s0)
    refine WH.next k50 <| WH.all (fuel := 11) (rs := [5, 13, 15]) (by kernel_rfl) (by decide) ?_
    simp only [List.forall_mem_cons, List.not_mem_nil, false_implies, implies_true, and_true]
    refine ⟨?_, ?_, ?_⟩
    ·
     refine ⟨_, Y, ?_⟩
     refine ev (Ev.aj gV Y (K69.x s3) Y) ?_
     exact Kj hS9 k50 ⟨g33, Y, K69⟩ Y
    ·
     refine ⟨_, Y, ?_⟩
     refine ev (Ev.aj gV Y (K69.x s3) Y) ?_
     exact Kj afr k50 ⟨g33, Y, K69⟩ Y
    ·
     refine ⟨_, Y, ?_⟩
     refine ni (τ := tOrder) (x := (⟨1, x1.ID, x1.ay, x1.Sum, (dX x1 ns ah (aO ks ns ls) aJ).1, (dX x1 ns ah (aO ks ns ls) aJ).1, now + aY⟩ : AOrder)) Y (by intro _; apply cB) rfl K69 (fun _ _ => rfl) fun g34 w70 K70 => ?_
     have k51 := (((((K70.rm s9).rm s8).rm s4).rm s1).rm s0)
     exact Kj afs k51 ⟨g34, g33, Y, K70⟩ Y
   ·
    refine ⟨_, Y, ?_⟩
    refine ev (Ev.aj gV Y (H4.x s2) Y) <| WH.next k5 <| WH.all (fuel := 11) (rs := [5, 7, 15]) (by kernel_rfl) (by decide) ?_
    simp only [List.forall_mem_cons, List.not_mem_nil, false_implies, implies_true, and_true]
    refine ⟨?_, ?_, ?_⟩
    ·
     refine ⟨_, Y, ?_⟩
     refine ev (Ev.aj gV Y (H4.x s2) Y) ?_
     exact Kj afo k5 ⟨Y, H4⟩ Y
    ·
     refine ⟨_, Y, ?_⟩
     refine ni (τ := tOrder) (x := (⟨1, x1.ID, x1.ay, x1.Sum, (dX x1 ns ah (aO ks ns ls) aJ).1, (dX x1 ns ah (aO ks ns ls) aJ).1, now + aY⟩ : AOrder)) Y (by intro _; apply cB) rfl H4 (fun _ _ => rfl) fun g35 w71 K71 => ?_
     have k52 := ((((K71.rm s8).rm s7).rm s3).rm s0)
     exact Kj afr k52 ⟨g35, Y, K71⟩ Y
    ·
     refine ⟨_, Y, ?_⟩
     refine ni (τ := tOrder) (x := (⟨1, x1.ID, x1.ay, x1.Sum, (dX x1 ns ah (aO ks ns ls) aJ).1, (dX x1 ns ah (aO ks ns ls) aJ).1, now + aY⟩ : AOrder)) Y (by intro _; apply cB) rfl H4 (fun _ _ => rfl) fun g36 w72 K72 => ?_
     have k53 := ((((K72.rm s8).rm s7).rm s3).rm s0)
     exact Kj afu k53 ⟨g36, Y, K72⟩ Y
   ·
    refine ⟨_, Y, ?_⟩
    refine ni (τ := tOrder) (x := (⟨1, x1.ID, x1.ay, x1.Sum, (dX x1 ns ah (aO ks ns ls) aJ).1, (dX x1 ns ah (aO ks ns ls) aJ).1, now + aY⟩ : AOrder)) Y (by intro _; apply cB) rfl H4 (fun _ _ => rfl) fun g37 w73 K73 => ?_
    have k54 := ((((K73.rm s8).rm s7).rm s3).rm s0)
    refine WH.next k54 <| WH.all (fuel := 11) (rs := [5, 7, 13]) (by kernel_rfl) (by decide) ?_
    simp only [List.forall_mem_cons, List.not_mem_nil, false_implies, implies_true, and_true]
    refine ⟨?_, ?_, ?_⟩
    ·
     refine ⟨_, Y, ?_⟩
     refine ev (Ev.aj gV Y (K73.x s3) Y) ?_
     exact Kj afq k54 ⟨g37, Y, K73⟩ Y
    ·
     refine ⟨_, Y, ?_⟩
     refine ni (τ := tOrder) (x := (⟨1, x1.ID, x1.ay, x1.Sum, (dX x1 ns ah (aO ks ns ls) aJ).1, (dX x1 ns ah (aO ks ns ls) aJ).1, now + aY⟩ : AOrder)) Y (by intro _; apply cB) rfl K73 (fun _ _ => rfl) fun g38 w74 K74 => ?_
     have k55 := (((((K74.rm s9).rm s8).rm s4).rm s1).rm s0)
     exact Kj afs k55 ⟨g37, g38, Y, ((K74.sel s0).sel s1)⟩ Y
    ·
     refine ⟨_, Y, ?_⟩
     refine ev (Ev.aj gV Y (K73.x s3) Y) ?_
     exact Kj afu k54 ⟨g37, Y, K73⟩ Y
  rintro _ w75 ⟨o9, cj2, Ai, Aj, rfl, K75⟩
  refine Hf K75 (fun _ K => ((K.rm s8).rm s0)) (fun l0 rk lJ wJ => ∃ (vL : an3) (vM : Nat), lJ = l0 ∧ Hp b S wJ (dG g 81 [v0, .slice AL ls.length cL, .slice o9 (((ds ++ (fA ls ks ns ah aJ (now + aY) (aW.take k))) ++ ([(⟨1, x1.ID, x1.ay, x1.Sum, (dX x1 ns ah (aO ks ns ls) aJ).1, (dX x1 ns ah (aO ks ns ls) aJ).1, now + aY⟩ : AOrder)] : List AOrder)).length) cj2, .slice AN ns.length cN, .slice AK ks.length cK, v5, v6, v7, v8, .int .i64 aJ, .int .i64 aY, v11, .int .i64 now, .slice AV ah.length cV, .slice AS aW.length cS, .slice Ai (((os ++ (fA ls ks ns ah aJ (now + aY) (aW.take k))) ++ ([(⟨1, x1.ID, x1.ay, x1.Sum, (dX x1 ns ah (aO ks ns ls) aJ).1, (dX x1 ns ah (aO ks ns ls) aJ).1, now + aY⟩ : AOrder)] : List AOrder)).length) Aj, .slice vL (((cs ++ (fA ls ks ns ah aJ (now + aY) (aW.take k)).map gY) ++ ([(⟨0, 0, 6, x1.ID, (dX x1 ns ah (aO ks ns ls) aJ).1, 0⟩ : iT)] : List iT)).length) vM] :: aQ nI 60 vL vM ((cs ++ (fA ls ks ns ah aJ (now + aY) (aW.take k)).map gY) ++ ([(⟨0, 0, 6, x1.ID, (dX x1 ns ah (aO ks ns ls) aJ).1, 0⟩ : iT)] : List iT)) :: rk)) (fun hns H5 => ?_) ?_
  ·
   have Y7 := ((H5.rm s8).rm s0)
   refine Tm 0 1 hns Y Y Y7 <| Tm 1 3 hns Y Y Y7 <| Tn 2 7 hns Y (fun _ _ => Ev.nilCheck Y) Y7 <| Tn 3 15 hns Y (fun _ _ => Ev.field (q := ⟨g, 16, none⟩) Di Y Y) Y7 ?_
   refine Tn 5 47 hns Y (fun _ _ => Ev.field (q := ⟨g1, 0, none⟩) gI Y Y) Y7 <| Tn 6 111 hns Y (fun _ hK => Ev.aj bf Y (hK.x s5) Y) Y7 ?_
   refine Tm 7 239 hns Y Y Y7 <| Tn 8 495 hns Y (fun _ _ => Ev.build (vs := [(2, .int .i64 6), (3, .int .i64 x1.ID), (4, .int .i64 ((dX x1 ns ah (aO ks ns ls) aJ).1))]) (cs := [.int .i64 0, .int .i64 0, .int .i64 6, .int .i64 x1.ID, .int .i64 ((dX x1 ns ah (aO ks ns ls) aJ).1), .int .i64 0]) Y (by apply wU)) Y7 ?_
   refine Jn H5 (fun l0 rk lJ wJ => ∃ (g39 : Nat), lJ = (90, .slice A16 ((cs ++ (fA ls ks ns ah aJ (now + aY) (aW.take k)).map gY).length) c16) :: (95, .slice (some ⟨g39, 0, none⟩) (([(⟨0, 0, 6, x1.ID, (dX x1 ns ah (aO ks ns ls) aJ).1, 0⟩ : iT)] : List iT).length) 1) :: l0 ∧ Hp b S wJ (aQ nI 60 (some ⟨g39, 0, none⟩) 1 ([(⟨0, 0, 6, x1.ID, (dX x1 ns ah (aO ks ns ls) aJ).1, 0⟩ : iT)] : List iT) :: rk)) 4 1023 ?_ fun afv => ?_
   ·
    rintro _ w80 ⟨g39, rfl, K80⟩
    refine O1 10 Y ?_
    refine ap (ys := ([(⟨0, 0, 6, x1.ID, (dX x1 ns ah (aO ks ns ls) aJ).1, 0⟩ : iT)] : List iT)) K80 s9 Y Y (K80.o s0) Tryz.underlying37 Z9 (by simp only [List.length_append, List.length_map]; omega) (by simp) rfl fun aiS aiT w81 K81 => ?_
    have k61 := (((K81.rm s2).rm s1).rm s0)
    refine WH.next k61 <| Tn 11 4095 hns Y (fun _ _ => Ev.nilCheck Y) k61 <| Tn 12 8191 hns Y (fun _ _ => Ev.field (q := ⟨g, 16, none⟩) Di Y Y) k61 ?_
    refine O1 13 Y ?_
    refine BK Y Y Y aac K81 s2 Y fun w82 K82 => ?_
    have k62 := (((K82.rm s2).rm s1).rm s0)
    refine WH.next k62 ?_
    exact Dn ⟨aiS, aiT, Y, (K82.rm s2)⟩ Y
   refine O2 4 9 Y Y ?_ ?_
   ·
    refine ev (Ev.aj zR Y (H5.x s0) Y) <| WH.next Y7 <| O1 9 Y ?_
    refine ni (τ := nI) (x := (⟨0, 0, 6, x1.ID, (dX x1 ns ah (aO ks ns ls) aJ).1, 0⟩ : iT)) Y (by intro _; apply oz) rfl H5 (fun _ _ => rfl) fun g41 w83 K83 => ?_
    have k63 := (((K83.rm s9).rm s1).rm s0)
    exact Kj afv k63 ⟨g41, Y, K83⟩ Y
   ·
    refine ni (τ := nI) (x := (⟨0, 0, 6, x1.ID, (dX x1 ns ah (aO ks ns ls) aJ).1, 0⟩ : iT)) Y (by intro _; apply oz) rfl H5 (fun _ _ => rfl) fun g42 w84 K84 => ?_
    have k64 := (((K84.rm s9).rm s1).rm s0)
    refine WH.next k64 <| O1 4 Y <| ev (Ev.aj zR Y (K84.x s1) Y) ?_
    exact Kj afv k64 ⟨g42, Y, K84⟩ Y
  rintro _ w85 ⟨vL, vM, rfl, K85⟩
  refine aA.aS (aA.norm ?_)
  refine eP <| ev (Ev.add Y Y (eX.mk (by omega) (by omega))) <| mv Y <| eT ?_
  have jK : (((ds ++ (fA ls ks ns ah aJ (now + aY) (aW.take k))) ++ ([(⟨1, x1.ID, x1.ay, x1.Sum, (dX x1 ns ah (aO ks ns ls) aJ).1, (dX x1 ns ah (aO ks ns ls) aJ).1, now + aY⟩ : AOrder)] : List AOrder)) : List AOrder) = (ds ++ (fA ls ks ns ah aJ (now + aY) (aW.take (k + 1)))) := by first | rw [qj hx1 (by first | exact .inl (by omega) | exact .inr jT | exact .inr (by simpa [BA] using jT))] | (rw [ou hx1 (by omega) (by first | exact jT | simpa [BA] using jT)]; rw [← List.append_assoc]; rfl)
  rw [jK] at K85
  have hq11 : (((os ++ (fA ls ks ns ah aJ (now + aY) (aW.take k))) ++ ([(⟨1, x1.ID, x1.ay, x1.Sum, (dX x1 ns ah (aO ks ns ls) aJ).1, (dX x1 ns ah (aO ks ns ls) aJ).1, now + aY⟩ : AOrder)] : List AOrder)) : List AOrder) = (os ++ (fA ls ks ns ah aJ (now + aY) (aW.take (k + 1)))) := by first | rw [qj hx1 (by first | exact .inl (by omega) | exact .inr jT | exact .inr (by simpa [BA] using jT))] | (rw [ou hx1 (by omega) (by first | exact jT | simpa [BA] using jT)]; rw [← List.append_assoc]; rfl)
  rw [hq11] at K85
  have hq12 : (((cs ++ (fA ls ks ns ah aJ (now + aY) (aW.take k)).map gY) ++ ([(⟨0, 0, 6, x1.ID, (dX x1 ns ah (aO ks ns ls) aJ).1, 0⟩ : iT)] : List iT)) : List iT) = (cs ++ (fA ls ks ns ah aJ (now + aY) (aW.take (k + 1))).map gY) := by first | rw [qj hx1 (by first | exact .inl (by omega) | exact .inr jT | exact .inr (by simpa [BA] using jT))] | (rw [ou hx1 (by omega) (by first | exact jT | simpa [BA] using jT)]; rw [List.map_append, ← List.append_assoc]; rfl)
  rw [hq12] at K85
  exact aA.ag ⟨(k + 1), o9, cj2, Ai, Aj, vL, vM, Y, Y, by omega, ((((((((K85.rm s8).rm s7).rm s5).rm s4).sel s0).sel s1).sel s3).sel s3)⟩ rfl (by omega)
 replace kr := of_decide_eq_false kr
 refine WP.exit (aA.aF (aA.aF (aA.bS (aA.nL (aA.aD Y Y Y ?_)))))
 have hfk : aW.take k = aW := List.take_of_length_le (by omega)
 rw [hfk] at K1
 exact ⟨Y, _, _, _, _, _, _, (((((K1.sel s2).sel s2).sel s2).sel s4).sel s4)⟩
end Go.Proofs.YtjcklpooaaaglaaGreat
set_option maxRecDepth 4000
set_option linter.all false
namespace Go.Proofs.YtjcklpooaaaglaaGreat
open Go.RowKit
theorem MI {S0 : Nat → Prop} (w : World) {d9 : an3} {eu : Nat} {l : List AChunk} (dN : Sl tChunk S0 w d9 eu l) (id : Int) (hn : l.length ≤ 100000) (hh : ∀ x ∈ l, x.av.length ≤ 100000) :
    bY Tryz.prog 25 #[.slice d9 l.length eu, .int .i64 id] w fun v w' => ∃ (B0_0 : an3) (qG : Nat), v = .tuple #[.agg #[.int .i64 ((aL l id).ID), .int .i64 ((aL l id).ay), .int .u32 ((aL l id).Sum), .slice B0_0 (((aL l id).av).length) qG], .bool (gG l id)] ∧ Hp w S0 w' [aQ tInt 3 B0_0 qG ((aL l id).av)] := by
 refine WP.enter Tryz.func25 Y Tryz.ntmps25 Y ?_
 have H0 := Hp.init w S0
 have iJ := dN.aN
 have hf := GI l
 refine rg ?_
 refine al iI Y H0 fun g1 w1 K1 => ?_
 refine aR Y <| dn <| rg <| mv Y <| WL.call Y Y Y ZB (KQ (S0 := Rd w S0 [dG g1 53 [.int .i64 0, .int .i64 0, .int .u32 0, .slice none 0 0]] _) _ (K1.a dN) hn hh) Y ?_
 rintro _ w2 ⟨A, c, ks, rfl, hkc, h9⟩
 have K2 := K1.c2 h9
 have hkl : ks.length = (iw l).length := by rw [← hkc, List.length_map]
 refine aR Y <| dn ?_
 have hrd := K2.rdK s0 s0
 refine WP.re (t := 0) Y (congrArg (fun z => Value.slice A z c) (KR ks).symm) <| rg <| mv Y <| mv Y ?_
 refine C0 K2 Y Y Y ZC (GJ _ hrd id (by rw [hkc]; exact wG l) (by rw [List.length_map]; omega)) fun w3 K3 => ?_
 refine mv Y <| xt Y Y <| xt Y Y <| aR Y <| aR Y <| dn <| WP.seq <| WP.re (t := 0) Y (congrArg (fun z => Value.slice A z c) (KR ks)) <| rg <| mv Y <| ev (Ev.not Y) <| dn ?_
 refine WP.aG Y (fun hc17 => ?_) (fun hc17 => ?_)
 ·
  try simp only [an4, an5, an6, an7, an8, an9, aoa, aob] at hc17
  refine rg <| ev (Ev.build (vs := []) (cs := [.int .i64 0, .int .i64 0, .int .u32 0, .slice none 0 0]) Y (by apply N9)) ?_
  refine iW Y Y Y gu K3 s2 Y Y fun w4 K4 => ?_
  refine aR Y <| dn ?_
  refine WP.ret (aA.aP (aA.oG Y ⟨_, _, Y, ⟨_, Y, eH (cs := [.int .i64 0, .int .i64 0, .int .u32 0, .slice none 0 0]) gQ Y (K4.x s0)⟩, ⟨_, _, Y, Y, Y⟩⟩ ?_))
  have hnf : aL l id = ⟨0, 0, 0, []⟩ := DL (by rw [← hkc]; simpa using hc17)
  have hnb : gG l id = false := by unfold gG; rw [← hkc]; simpa using hc17
  have hq1 : ((⟨0, 0, 0, []⟩ : AChunk) : AChunk) = (aL l id) := by exact hnf.symm
  have hq2 : (0 : Int) = (aL l id).ID := by rw [← hq1]
  have hq3 : (0 : Int) = (aL l id).ay := by rw [← hq1]
  have hq4 : (0 : Int) = (aL l id).Sum := by rw [← hq1]
  have H1 := K4.nil tInt 3
  have kP : (([] : List Int) : List Int) = ((aL l id).av) := by rw [← hq1]
  have ny : (false : Bool) = (gG l id) := by exact hnb.symm
  exact ⟨none, 0, by first | (rw [← hq2, ← hq3, ← hq4, ← ny, ← kP] <;> rfl) | (rw [← kP, ← hq2, ← hq3, ← hq4, ← ny] <;> rfl), by rw [← kP]; exact (((H1.rm s3).rm s2).rm s1)⟩
 try simp only [an4, an5, an6, an7, an8, an9, aoa, aob] at hc17
 have hc17 : hits (fun (y : AChunk) => dP y.ID id) (ks.map fZ.c) = true := by simpa using hc17
 obtain ⟨xb, hxb, hkb⟩ := pV (key := AChunk.ID) hc17
 have abd := aC hxb
 rw [List.length_map] at abd
 refine WP.skip (aA.norm ?_)
 refine rg <| mv Y <| mv Y ?_
 obtain ⟨x1, hx1⟩ := get_some (xs := ks) (i := low (fun (y : AChunk) => dP y.ID id) (ks.map fZ.c)) (by omega)
 refine ev (Ev.index (i := low (fun (y : AChunk) => dP y.ID id) (ks.map fZ.c)) Tryz.underlying23 gu Y Y Y (aC hx1) ((K3.o s0).some_ hx1)) ?_
 refine ev (Ev.loadRow gQ Y Y ((K3.o s0).dx hx1)) ?_
 refine iW Y Y Y gu K3 s2 Y Y fun w5 K5 => ?_
 refine aR Y <| dn ?_
 refine WP.ret (aA.oG Y ⟨_, _, Y, ⟨_, Y, eH (cs := [.int .i64 x1.c.ID, .int .i64 x1.c.ay, .int .u32 x1.c.Sum, .slice x1.B x1.c.av.length x1.d]) gQ Y (K5.x s0)⟩, ⟨_, _, Y, Y, Y⟩⟩ ?_)
 have hrx : (ks.map tq)[low (fun (y : AChunk) => dP y.ID id) (ks.map fZ.c)]? = some (x1.B, x1.d, x1.c.av) := by rw [List.getElem?_map, hx1]; rfl
 have H2 := K5.Un s2 hrx
 have hyf : aL l id = x1.c := AA (by rw [← hkc]; exact hc17) (by rw [← hkc, List.getElem?_map, hx1]; rfl)
 have hyb : gG l id = true := by unfold gG; rw [← hkc]; exact hc17
 have kT : (x1.c : AChunk) = (aL l id) := by exact hyf.symm
 have hq8 : (x1.c.ID : Int) = (aL l id).ID := by rw [← kT]
 have uj : (x1.c.ay : Int) = (aL l id).ay := by rw [← kT]
 have jK : (x1.c.Sum : Int) = (aL l id).Sum := by rw [← kT]
 have hq11 : (x1.c.av : List Int) = ((aL l id).av) := by rw [← kT]
 have hq12 : (true : Bool) = (gG l id) := by exact hyb.symm
 exact ⟨x1.B, x1.d, by first | (rw [hq8, uj, jK, hq11, ← hq12] <;> rfl) | (rw [hq11, hq8, uj, jK, ← hq12] <;> rfl), by rw [← hq11]; exact (((H2.rm s3).rm s2).rm s1)⟩
end Go.Proofs.YtjcklpooaaaglaaGreat
set_option maxRecDepth 4000
set_option linter.all false
namespace Go.Proofs.YtjcklpooaaaglaaGreat
open Go.RowKit
theorem acL : aM Tryz.prog 129 := fun _ _ => by kernel_rfl
theorem MJ {S0 : Nat → Prop} (w : World) (n : Nat) (hn : n ≤ 1000000) :
    bY Tryz.prog 129 #[.slice none 0 0, .int .i64 ((n : Nat) : Int)] w fun v w' => ∃ (A0 : an3) (c0 : Nat), v = .slice A0 (([] : List Int).length) c0 ∧ Hp w S0 w' [aQ tInt 3 A0 c0 ([] : List Int)] := by
 refine WP.enter Tryz.func129 Y Tryz.ntmps129 Y ?_
 have H0 := Hp.init w S0
 refine rg <| aR Y <| dn <| WP.seq <| rg <| mv Y <| ev (Ev.lss Y Y) <| dn ?_
 refine WP.aG Y (fun hc6 => ?_) (fun hc6 => ?_)
 ·
  replace hc6 := of_decide_eq_true hc6
  omega
 replace hc6 := of_decide_eq_false hc6
 refine WP.skip (aA.norm ?_)
 refine WP.seq <| rg <| mv Y <| mv Y <| ev (Ev.cap Tryz.underlying51 Y) <| mv Y <| ev (Ev.len Tryz.underlying51 Y) <| ev (Ev.sub Y Y (eX.mk (by omega) (by omega))) <| ev (Ev.sub Y Y (eX.mk (by omega) (by omega))) <| aR Y <| dn <| rg <| mv Y <| ev (Ev.gtr Y Y) <| dn ?_
 refine WP.aG Y (fun hc16 => ?_) (fun hc16 => ?_)
 ·
  replace hc16 := of_decide_eq_true hc16
  refine eP <| mv Y <| mv Y <| ev (Ev.cap Tryz.underlying51 Y) <| ev (Ev.PY Tryz.underlying51 iC Y Y Y) <| mv Y ?_
  refine apz tInt (m := n) Y Y Tryz.underlying51 Tryz.underlying3 uF (by omega) (by omega) Y H0 fun g1 cz1 w1 K1 => ?_
  refine mv Y <| ev (Ev.len Tryz.underlying51 Y) <| ev (Ev.PY Tryz.underlying51 iC Y Y Y) <| aR Y <| eT <| aA.norm <| rg <| mv Y <| aR Y <| dn ?_
  refine WP.ret (aA.aD Y Y Y ?_)
  exact ⟨(some ⟨g1, 0, none⟩), cz1, Y, K1⟩
 replace hc16 := of_decide_eq_false hc16
 refine WP.skip (aA.norm ?_)
 refine rg <| mv Y <| aR Y <| dn ?_
 refine WP.ret (aA.aD Y Y Y ?_)
 have H1 := H0.nil tInt 3
 exact ⟨none, 0, Y, H1⟩
theorem Js {S0 : Nat → Prop} (w : World) {aag : an3} {aah : Nat} {xss : List (List Int)} (MK : Sl (Ty.list tInt) S0 w aag aah xss) (hn : (xss).flatten.length ≤ 1000000) :
    bY Tryz.prog 83 #[.slice aag xss.length aah] w fun v w' => ∃ (A0 : an3) (c0 : Nat), v = .slice A0 (((xss).flatten).length) c0 ∧ Hp w S0 w' [aQ tInt 3 A0 c0 ((xss).flatten)] := by
 refine WP.enter Tryz.func83 Y Tryz.ntmps83 Y ?_
 have H0 := Hp.init w S0
 have aiW := MK.aN
 refine rg <| aR Y <| dn <| rg <| aR Y <| dn <| WP.seq <| rg <| mv Y <| ev (Ev.len Tryz.underlying163 Y) <| mv Y <| dn <| WP.block ?_
 have hq1 : (0 : Int) = ((wh xss 0 : Nat) : Int) := by rfl
 refine WP.re (t := 3) Y (congrArg (Value.int .i64) hq1) <| Lp H0 (fun l0 rk mJ lJ wJ => ∃ (k : Nat), lJ = (3, .int .i64 ((wh xss k : Nat) : Int)) :: (11, .int .i64 ((k : Nat) : Int)) :: l0 ∧ mJ = xss.length - k ∧ k ≤ xss.length ∧ Hp w S0 wJ rk) ⟨0, Y, Y, Nat.zero_le _, H0⟩ Y ?_
 rintro _ _ w1 ⟨k, rfl, rfl, hk, K1⟩
 refine rg <| ev (Ev.lss Y Y) <| dn ?_
 refine WP.cond Y (fun iL => ?_) (fun iL => ?_)
 ·
  replace iL := of_decide_eq_true iL
  refine WP.skip (aA.norm ?_)
  refine WP.seq <| WP.block <| rg ?_
  obtain ⟨x1, hx1⟩ := get_some (xs := xss) (i := k) (by omega)
  refine ev (Ev.index (i := k) Tryz.underlying163 zm Y Y Y (aC hx1) ((K1.a MK).some_ hx1)) ?_
  obtain ⟨B1, d1, kL, hi1⟩ := P8 (MK.row hx1)
  refine ev (Ev.aZ gK Y (K1.ext.cell kL)) <| aR Y <| dn <| rg <| mv Y <| mv Y <| ev (Ev.len Tryz.underlying51 Y) <| ev (Ev.add Y Y (eX.mk (by have := uq hx1; have := wm xss (k + 1); omega) (by have := uq hx1; have := wm xss (k + 1); omega))) <| aR rfl <| dn <| rg <| mv rfl <| ev (Ev.lss rfl rfl) <| dn ?_
  refine WP.aG Y (fun iX => ?_) (fun iX => ?_)
  ·
   replace iX := of_decide_eq_true iX
   omega
  replace iX := of_decide_eq_false iX
  refine WP.skip (aA.aS (aA.norm ?_))
  refine eP <| ev (Ev.add Y Y (eX.mk (by omega) (by omega))) <| mv Y <| eT ?_
  have hq2 : (((wh xss k + x1.length : Nat) : Int) : Int) = ((wh xss (k + 1) : Nat) : Int) := by have := uq hx1; omega
  refine aA.re (t := 3) Y (congrArg (Value.int .i64) hq2) ?_
  exact aA.ag ⟨(k + 1), Y, Y, by omega, K1⟩ rfl (by omega)
 replace iL := of_decide_eq_false iL
 refine WP.exit (aA.aF (aA.aF (aA.bS (aA.norm ?_))))
 refine rg <| mv Y <| WL.call Y Y Y acL (MJ (S0 := Any) _ (wh xss k) (by have := wm xss k; omega)) rfl ?_
 rintro _ w2 ⟨lD, lF, rfl, h2⟩
 have K2 := K1.f1 h2
 have DN := (K2.o s0).aN
 refine aR Y <| dn <| WP.seq <| rg <| mv Y <| ev (Ev.len Tryz.underlying163 Y) <| mv Y <| dn <| WP.block ?_
 have hq3 : (([] : List Int) : List Int) = ((xss.take 0).flatten) := by simp
 refine WP.re (t := 6) Y (congrArg (fun z => Value.slice lD (List.length z) lF) hq3) ?_
 rw [hq3] at K2
 refine Lp (K2.rm s0) (fun l0 rk mJ lJ wJ => ∃ (k : Nat) (A6 : an3) (c6 : Nat), lJ = (6, .slice A6 (((xss.take k).flatten).length) c6) :: (27, .int .i64 ((k : Nat) : Int)) :: l0 ∧ mJ = xss.length - k ∧ k ≤ xss.length ∧ Hp w S0 wJ (aQ tInt 3 A6 c6 ((xss.take k).flatten) :: rk)) ⟨0, lD, lF, Y, Y, Nat.zero_le _, K2⟩ Y ?_
 rintro _ _ w3 ⟨k, A6, c6, rfl, rfl, hk, K3⟩
 refine rg <| ev (Ev.lss Y Y) <| dn ?_
 refine WP.cond Y (fun hc28 => ?_) (fun hc28 => ?_)
 ·
  replace hc28 := of_decide_eq_true hc28
  refine WP.skip (aA.norm ?_)
  refine WP.seq <| WP.block <| rg ?_
  obtain ⟨x2, hx2⟩ := get_some (xs := xss) (i := k) (by omega)
  refine ev (Ev.index (i := k) Tryz.underlying163 zm Y Y Y (aC hx2) ((K3.a MK).some_ hx2)) ?_
  obtain ⟨B2, d2, Oc, hi2⟩ := P8 (MK.row hx2)
  refine ev (Ev.aZ gK Y (K3.ext.cell Oc)) <| aR Y <| dn <| eP <| mv Y <| mv Y ?_
  refine ap (ys := x2) K3 s0 Y Y (K3.a hi2).any Tryz.underlying51 uF (by have := wm xss k; simp only [wh] at this; omega) (by have := uq hx2; have := wm xss (k + 1); omega) rfl fun jg jh w4 K4 => ?_
  refine aR Y <| eT ?_
  refine aA.aS (aA.norm ?_)
  refine eP <| ev (Ev.add Y Y (eX.mk (by omega) (by omega))) <| mv Y <| eT ?_
  have hq4 : ((((xss.take k).flatten) ++ x2) : List Int) = ((xss.take (k + 1)).flatten) := by exact IJ hx2
  refine aA.re (t := 6) Y (congrArg (fun z => Value.slice jg (List.length z) jh) hq4) ?_
  rw [hq4] at K4
  exact aA.ag ⟨(k + 1), jg, jh, Y, Y, by omega, K4⟩ rfl (by omega)
 replace hc28 := of_decide_eq_false hc28
 refine WP.exit (aA.aF (aA.aF (aA.bS (aA.norm ?_))))
 refine rg <| mv Y <| aR Y <| dn ?_
 refine WP.ret (aA.aD Y Y Y ?_)
 have kP : (((xss.take k).flatten) : List Int) = ((xss).flatten) := by rw [List.take_of_length_le (by omega)]
 rw [kP] at K3
 exact ⟨A6, c6, by rw [kP] <;> rfl, K3⟩
end Go.Proofs.YtjcklpooaaaglaaGreat
