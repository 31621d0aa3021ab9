/- Texts that the statement needs, with short names. -/
import Derived.Test.YtjcklpooaaaglaaGreatvG16
set_option maxRecDepth 4000
set_option linter.all false
namespace Go.Proofs.YtjcklpooaaaglaaGreat
open Go.RowKit
theorem agL : aM Tryz.prog 99 := fun _ _ => by kernel_rfl
theorem Ad : dL Tryz.prog 87 6 15 := fun _ _ => by kernel_rfl
theorem aaM : aM Tryz.prog 24 := fun _ _ => by kernel_rfl
theorem aaN : aM Tryz.prog 19 := fun _ _ => by kernel_rfl
theorem Ae (LQ : an3) (BS BU : Nat) (Wq : an3) (MS MV : Nat) (Ws : an3) (MW MX : Nat) (Wt : an3) (MZ M0 : Nat) (Wu : an3) (M4 M5 : Nat) (Wv : an3) (M6 M7 : Nat) (Wx : Int) (Wy : Int) (Wz : Int) (WA : Int) (WB : Int) (WC : Int) (a3 : Int) : Tryz.prog.built 87 [(0, .agg #[.slice LQ BS BU, .slice Wq MS MV, .slice Ws MW MX]), (1, .agg #[.slice Wt MZ M0, .slice Wu M4 M5, .slice Wv M6 M7]), (2, .agg #[.int .i64 Wx, .int .i64 Wy, .int .i64 Wz, .int .i64 WA, .int .i64 WB, .int .i64 WC]), (3, .int .i64 a3)] = some #[.slice LQ BS BU, .slice Wq MS MV, .slice Ws MW MX, .slice Wt MZ M0, .slice Wu M4 M5, .slice Wv M6 M7, .int .i64 Wx, .int .i64 Wy, .int .i64 Wz, .int .i64 WA, .int .i64 WB, .int .i64 WC, .int .i64 a3, .slice none 0 0, .slice none 0 0, .slice none 0 0] := by kernel_rfl
theorem agM : aM Tryz.prog 44 := fun _ _ => by kernel_rfl
theorem aaO : aM Tryz.prog 22 := fun _ _ => by kernel_rfl
theorem agN : aM Tryz.prog 45 := fun _ _ => by kernel_rfl
theorem agO : aM Tryz.prog 46 := fun _ _ => by kernel_rfl
theorem agP : aM Tryz.prog 47 := fun _ _ => by kernel_rfl
theorem aaP : aM Tryz.prog 48 := fun _ _ => by kernel_rfl
set_option maxHeartbeats 2000000 in
theorem X0 {b w : World} {S : Nat → Prop} {F : List jP} {g : Nat} {v2 v3 v6 v7 v8 v11 : Value} {AL : an3} {cL : Nat} {ls : List ALease} {AD : an3} {cD : Nat} {ds : List AOrder} {AO : an3} {cO : Nat} {os : List AOrder} {AC : an3} {cC : Nat} {cs : List iT} {AN : an3} {cN : Nat} {ns : List ANode} {AK : an3} {cK : Nat} {ks : List AChunk} {AV : an3} {cV : Nat} {ah : List Int} {aJ aY now : Int} {Bc : an3} {dc : Nat} {c : AChunk} (H0 : Hp b S w (dG g 87 [.slice AN ns.length cN, .slice AK ks.length cK, v2, v3, .slice AL ls.length cL, .slice AD ds.length cD, v6, v7, v8, .int .i64 aJ, .int .i64 aY, v11, .int .i64 now, .slice AV ah.length cV, .slice AO os.length cO, .slice AC cs.length cC] :: fM tLease AL cL ls :: fM tOrder AD cD ds :: aQ tOrder 50 AO cO os :: aQ nI 60 AC cC cs :: fM tNode AN cN ns :: fM tChunk AK cK ks :: fM tInt AV cV ah :: fM tInt Bc dc c.av :: F)) (hl : ls.length ≤ 100) (hd : ds.length ≤ 100000) (ho : os.length ≤ 100000) (hq : cs.length ≤ 1000) (hn : ns.length ≤ 1000) (hc : ks.length ≤ 1000) (hh : c.av.length ≤ 100000) (hup : c.av.Pairwise (fun x y => x < y)) (hu : -1099511627776 ≤ now ∧ now ≤ 4398046511104 ∧ -1099511627776 ≤ aY ∧ aY ≤ 1099511627776) :
    bY Tryz.prog 47 #[.pointer (some ⟨g, 0, none⟩), .agg #[.int .i64 c.ID, .int .i64 c.ay, .int .u32 c.Sum, .slice Bc c.av.length dc]] w fun v w' => v = .tuple #[] ∧ ∃ AD' cD' Hy Hz AC' cC', Hp b S w' (dG g 87 [.slice AN ns.length cN, .slice AK ks.length cK, v2, v3, .slice AL ls.length cL, .slice AD' ((ds ++ (qP ls ks ns ah aJ (now + aY) c)).length) cD', v6, v7, v8, .int .i64 aJ, .int .i64 aY, v11, .int .i64 now, .slice AV ah.length cV, .slice Hy ((os ++ (qP ls ks ns ah aJ (now + aY) c)).length) Hz, .slice AC' ((cs ++ (qP ls ks ns ah aJ (now + aY) c).map gY).length) cC'] :: fM tLease AL cL ls :: fM tOrder AD' cD' (ds ++ (qP ls ks ns ah aJ (now + aY) c)) :: aQ tOrder 50 Hy Hz (os ++ (qP ls ks ns ah aJ (now + aY) c)) :: aQ nI 60 AC' cC' (cs ++ (qP ls ks ns ah aJ (now + aY) c).map gY) :: fM tNode AN cN ns :: fM tChunk AK cK ks :: fM tInt AV cV ah :: fM tInt Bc dc c.av :: F) := by
 refine WP.enter Tryz.func47 Y Tryz.ntmps47 Y <| rg ?_
 refine bx Y Y H0 fun g1 w1 K1 => ?_
 refine dn <| WP.seq ?_
 have hcl := wS ls c.ID
 refine rg <| mv Y <| ev (Ev.field (q := ⟨g1, 0, none⟩) gI Y Y) <| ev (Ev.aj bf Y (K1.x s0) Y) <| WL.call Y Y Y aaJ (NA (((K1.sel s0).sel s2).sel s2) (by omega) c.ID) Y ?_
 rintro _ w2 ⟨Ac1, cc1, rfl, K2⟩
 refine ev (Ev.len Tryz.underlying51 Y) <| ev (Ev.gtr Y Y) <| dn ?_
 refine WP.aG Y (fun kr => ?_) (fun kr => ?_)
 ·
  replace kr := of_decide_eq_true kr
  refine WP.ret (aA.aP (aA.aD Y Y Y ?_))
  have htr : (qP ls ks ns ah aJ (now + aY) c) = [] := by unfold qP; rw [if_pos (by omega)]
  exact ⟨Y, _, _, _, _, _, _, by rw [htr, List.map_nil, List.append_nil, List.append_nil, List.append_nil]; exact ((K2.rm s3).rm s0)⟩
 replace kr := of_decide_eq_false kr
 refine WP.skip (aA.norm ?_)
 refine He K2 (fun _ K => K) (fun l0 rk lJ wJ => lJ = (4, .int .i64 ((dX c ns ah (aO ks ns ls) aJ).1)) :: (5, .bool ((dX c ns ah (aO ks ns ls) aJ).2)) :: l0 ∧ Hp b S wJ rk) (fun hns H1 => ?_) ?_
 ·
  refine Tn 0 1 hns Y (fun _ hK => Ev.bX gQ Y Y (hK.x s3)) H1 <| Tm 1 3 hns Y Y H1 <| Tn 2 7 hns Y (fun _ _ => Ev.nilCheck Y) H1 <| Tn 3 15 hns Y (fun _ _ => Ev.field (q := ⟨g, 0, none⟩) Ac Y Y) H1 ?_
  refine Tn 4 31 hns Y (fun _ _ => Ev.field (q := ⟨g, 0, none⟩) oq Y Y) H1 <| Tn 5 63 hns Y (fun _ hK => Ev.aj lS Y (hK.x s1) Y) H1 ?_
  refine Tm 6 127 hns Y Y H1 <| Tn 7 255 hns Y (fun _ _ => Ev.nilCheck Y) H1 <| Tn 8 511 hns Y (fun _ _ => Ev.field (q := ⟨g, 13, none⟩) xZ Y Y) H1 ?_
  refine Tn 9 1023 hns Y (fun _ hK => Ev.aj gK Y (hK.x s1) Y) H1 <| Tm 10 2047 hns Y Y H1 <| Tm 12 6143 hns Y Y H1 <| Tn 13 14335 hns Y (fun _ _ => Ev.nilCheck Y) H1 ?_
  refine Tn 14 30719 hns Y (fun _ _ => Ev.field (q := ⟨g, 6, none⟩) vE Y Y) H1 <| Tn 15 63487 hns Y (fun _ _ => Ev.field (q := ⟨g, 9, none⟩) rQ Y Y) H1 ?_
  refine Tn 16 129023 hns Y (fun _ hK => Ev.aj bf Y (hK.x s1) Y) H1 <| O1 11 Y <| WL.call Y Y Y aaK (Iz (((((((((H1.sel s6).sel s6).sel s6).sel s6).sel s4).sel s8).sel s8).sel s8).sel s8) (by omega) (by omega) (by omega)) Y ?_
  rintro _ w3 ⟨Ad1, cd1, rfl, K3⟩
  have k1 := ((((((((((K3.rm s0).sel s3).sel s3).sel s8).sel s8).sel s8).sel s8).sel s7).sel s7).sel s8)
  refine WH.next k1 <| O1 17 Y ?_
  refine C0 K3 Y Y Y agL (J4 _ c (K3.s s11).any (K3.s s3).any (K3.s s10).any (K3.o s0) aJ (by omega) hup) fun w4 K4 => ?_
  have k2 := ((((((((((K4.rm s0).sel s3).sel s3).sel s8).sel s8).sel s8).sel s8).sel s7).sel s7).sel s8)
  refine WH.next k2 <| Tm 18 524287 hns Y Y k2 <| Tn 19 1048575 hns Y (fun _ _ => Ev.extract (vs := [.int .i64 ((dX c ns ah (aO ks ns ls) aJ).1), .bool ((dX c ns ah (aO ks ns ls) aJ).2)]) Y Y) k2 ?_
  refine Tn 20 2097151 hns Y (fun _ _ => Ev.extract (vs := [.int .i64 ((dX c ns ah (aO ks ns ls) aJ).1), .bool ((dX c ns ah (aO ks ns ls) aJ).2)]) Y Y) k2 ?_
  refine Ta 21 4194303 hns Y Y k2 <| Ta 22 8388607 hns Y Y k2 ?_
  exact Dn ⟨Y, ((((((((((K4.rm s0).sel s3).sel s3).sel s8).sel s8).sel s8).sel s8).sel s7).sel s7).sel s8)⟩ Y
 rintro _ w5 ⟨rfl, K5⟩
 refine WP.seq <| rg <| mv Y <| ev (Ev.not Y) <| dn ?_
 refine WP.aG Y (fun uN => ?_) (fun uN => ?_)
 ·
  try simp only [an4, an5, an6, an7, an8, an9, aoa, aob] at uN
  refine WP.ret (aA.aP (aA.aD Y Y Y ?_))
  have htr : (qP ls ks ns ah aJ (now + aY) c) = [] := by unfold qP; rw [if_neg (by omega), if_neg (show ¬ (BA ls ks ns ah aJ c).2 = true by simpa [BA] using uN)]
  exact ⟨Y, _, _, _, _, _, _, by rw [htr, List.map_nil, List.append_nil, List.append_nil, List.append_nil]; exact ((K5.rm s3).rm s0)⟩
 try simp only [an4, an5, an6, an7, an8, an9, aoa, aob] at uN
 refine WP.skip (aA.norm ?_)
 refine He K5 (fun _ K => K) (fun l0 rk lJ wJ => ∃ (iZ : Nat), lJ = (6, .pointer (some ⟨iZ, 0, none⟩)) :: l0 ∧ Hp b S wJ (dG iZ 50 [.int .i64 1, .int .i64 c.ID, .int .i64 c.ay, .int .u32 c.Sum, .int .i64 ((dX c ns ah (aO ks ns ls) aJ).1), .int .i64 ((dX c ns ah (aO ks ns ls) aJ).1), .int .i64 (now + aY)] :: rk)) (fun hns H2 => ?_) ?_
 ·
  refine Tn 0 1 hns Y (fun _ _ => Ev.field (q := ⟨g1, 0, none⟩) gI Y Y) H2 <| Tn 1 3 hns Y (fun _ hK => Ev.aj bf Y (hK.x s3) Y) H2 <| Tn 2 7 hns Y (fun _ _ => Ev.field (q := ⟨g1, 1, none⟩) kZ Y Y) H2 ?_
  refine Tn 3 15 hns Y (fun _ hK => Ev.aj bf Y (hK.x s3) Y) H2 <| Tn 4 31 hns Y (fun _ _ => Ev.field (q := ⟨g1, 2, none⟩) rH Y Y) H2 ?_
  refine Tn 5 63 hns Y (fun _ hK => Ev.aj BP Y (hK.x s3) Y) H2 <| Tm 6 127 hns Y Y H2 <| Tm 7 255 hns Y Y H2 <| Tm 8 511 hns Y Y H2 ?_
  refine Tn 9 1023 hns Y (fun _ _ => Ev.nilCheck Y) H2 <| Tn 10 2047 hns Y (fun _ _ => Ev.field (q := ⟨g, 12, none⟩) QY Y Y) H2 <| Tn 11 4095 hns Y (fun _ hK => Ev.aj bf Y (hK.x s1) Y) H2 ?_
  refine Tm 12 8191 hns Y Y H2 <| Tn 13 16383 hns Y (fun _ _ => Ev.nilCheck Y) H2 <| Tn 14 32767 hns Y (fun _ _ => Ev.field (q := ⟨g, 6, none⟩) vE Y Y) H2 ?_
  refine Tn 15 65535 hns Y (fun _ _ => Ev.field (q := ⟨g, 10, none⟩) xP Y Y) H2 <| Tn 16 131071 hns Y (fun _ hK => Ev.aj bf Y (hK.x s1) Y) H2 ?_
  refine Tn 17 262143 hns Y (fun _ _ => Ev.add Y Y (eX.mk (by omega) (by omega))) H2 <| Tn 18 524287 hns Y (fun _ _ => Ev.build (vs := [(0, .int .i64 1), (1, .int .i64 c.ID), (2, .int .i64 c.ay), (3, .int .u32 c.Sum), (4, .int .i64 ((dX c ns ah (aO ks ns ls) aJ).1)), (5, .int .i64 ((dX c ns ah (aO ks ns ls) aJ).1)), (6, .int .i64 (now + aY))]) (cs := [.int .i64 1, .int .i64 c.ID, .int .i64 c.ay, .int .u32 c.Sum, .int .i64 ((dX c ns ah (aO ks ns ls) aJ).1), .int .i64 ((dX c ns ah (aO ks ns ls) aJ).1), .int .i64 (now + aY)]) Y (by apply iO)) H2 ?_
  refine O1 19 Y ?_
  refine al jM Y H2 fun g2 w6 K6 => ?_
  have k3 := (K6.rm s0)
  refine WH.next k3 <| O1 20 Y ?_
  refine iW Y Y Y gW K6 s0 Y Y fun w7 K7 => ?_
  have k4 := (K7.rm s0)
  refine WH.next k4 ?_
  exact Dn ⟨g2, Y, K7⟩ Y
 rintro _ w8 ⟨iZ, rfl, K8⟩
 refine He K8 (fun _ K => ((K.rm s6).rm s2)) (fun l0 rk lJ wJ => ∃ (o9 : an3) (cj2 : Nat), lJ = l0 ∧ Hp b S wJ (dG g 87 [.slice AN ns.length cN, .slice AK ks.length cK, v2, v3, .slice AL ls.length cL, .slice AD ds.length cD, v6, v7, v8, .int .i64 aJ, .int .i64 aY, v11, .int .i64 now, .slice AV ah.length cV, .slice o9 ((os ++ ([(⟨1, c.ID, c.ay, c.Sum, (dX c ns ah (aO ks ns ls) aJ).1, (dX c ns ah (aO ks ns ls) aJ).1, now + aY⟩ : AOrder)] : List AOrder)).length) cj2, .slice AC cs.length cC] :: aQ tOrder 50 o9 cj2 (os ++ ([(⟨1, c.ID, c.ay, c.Sum, (dX c ns ah (aO ks ns ls) aJ).1, (dX c ns ah (aO ks ns ls) aJ).1, now + aY⟩ : AOrder)] : List AOrder)) :: rk)) (fun hns H3 => ?_) ?_
 ·
  have k5 := ((H3.rm s6).rm s2)
  refine Tm 0 1 hns Y Y k5 <| Tm 1 3 hns Y Y k5 <| Tn 2 7 hns Y (fun _ _ => Ev.nilCheck Y) k5 <| Tn 3 15 hns Y (fun _ _ => Ev.field (q := ⟨g, 14, none⟩) vF Y Y) k5 ?_
  refine Tn 5 47 hns Y (fun _ hK => Ev.bX jV Y Y (hK.x s0)) k5 ?_
  refine Jn H3 (fun l0 rk lJ wJ => ∃ (g3 : Nat), lJ = (60, .slice AO os.length cO) :: (62, .slice (some ⟨g3, 0, none⟩) (([(⟨1, c.ID, c.ay, c.Sum, (dX c ns ah (aO ks ns ls) aJ).1, (dX c ns ah (aO ks ns ls) aJ).1, now + aY⟩ : AOrder)] : List AOrder).length) 1) :: l0 ∧ Hp b S wJ (aQ tOrder 50 (some ⟨g3, 0, none⟩) 1 ([(⟨1, c.ID, c.ay, c.Sum, (dX c ns ah (aO ks ns ls) aJ).1, (dX c ns ah (aO ks ns ls) aJ).1, now + aY⟩ : AOrder)] : List AOrder) :: rk)) 4 127 ?_ fun hS1 => ?_
  ·
   rintro _ RY ⟨g3, rfl, sP⟩
   refine O1 7 Y ?_
   refine ap (ys := ([(⟨1, c.ID, c.ay, c.Sum, (dX c ns ah (aO ks ns ls) aJ).1, (dX c ns ah (aO ks ns ls) aJ).1, now + aY⟩ : AOrder)] : List AOrder)) sP s7 Y Y (sP.o s0) Tryz.underlying29 vK (by first | omega | (simp; omega) | (simp; done)) (by simp) rfl fun G5 cp2 RZ nO => ?_
   have k10 := (((nO.rm s4).rm s1).rm s0)
   refine WH.next k10 <| Tn 8 511 hns Y (fun _ _ => Ev.nilCheck Y) k10 <| Tn 9 1023 hns Y (fun _ _ => Ev.field (q := ⟨g, 14, none⟩) vF Y Y) k10 <| O1 10 Y ?_
   refine BK Y Y Y EM nO s4 Y fun TM vW => ?_
   have k11 := (((vW.rm s2).rm s1).rm s0)
   refine WH.next k11 ?_
   exact Dn ⟨G5, cp2, Y, (vW.rm s2)⟩ Y
  refine O2 4 6 Y Y ?_ ?_
  ·
   refine ev (Ev.aj gV Y (H3.x s2) Y) <| WH.next k5 <| O1 6 Y ?_
   refine ni (τ := tOrder) (x := (⟨1, c.ID, c.ay, c.Sum, (dX c ns ah (aO ks ns ls) aJ).1, (dX c ns ah (aO ks ns ls) aJ).1, now + aY⟩ : AOrder)) Y (by intro _; apply cB) rfl H3 (fun _ _ => rfl) fun g5 w16 tQ => ?_
   have k12 := (((tQ.rm s7).rm s3).rm s0)
   exact Kj hS1 k12 ⟨g5, Y, tQ⟩ Y
  ·
   refine ni (τ := tOrder) (x := (⟨1, c.ID, c.ay, c.Sum, (dX c ns ah (aO ks ns ls) aJ).1, (dX c ns ah (aO ks ns ls) aJ).1, now + aY⟩ : AOrder)) Y (by intro _; apply cB) rfl H3 (fun _ _ => rfl) fun g6 Vh qp => ?_
   have k13 := (((qp.rm s7).rm s3).rm s0)
   refine WH.next k13 <| O1 4 Y <| ev (Ev.aj gV Y (qp.x s3) Y) ?_
   exact Kj hS1 k13 ⟨g6, Y, qp⟩ Y
 rintro _ Yb ⟨o9, cj2, rfl, vX⟩
 refine rg <| mv Y <| ev (Ev.nilCheck Y) <| ev (Ev.field (q := ⟨g, 3, none⟩) jN Y Y) <| ev (Ev.field (q := ⟨g, 5, none⟩) jc Y Y) <| ev (Ev.aj gV Y (vX.x s0) Y) ?_
 have H4 := vX.nil tOrder 50
 refine ap (ys := ds) H4 s0 Y Y (H4.s s7).any Tryz.underlying29 vK (by simp) (by first | omega | (simp; omega) | (simp; done)) rfl fun Ap3 cp3 ZJ zy => ?_
 refine aR Y <| dn <| rg <| mv Y <| ev (Ev.bX jV Y Y (zy.x s3)) ?_
 refine ni (τ := tOrder) (x := (⟨1, c.ID, c.ay, c.Sum, (dX c ns ah (aO ks ns ls) aJ).1, (dX c ns ah (aO ks ns ls) aJ).1, now + aY⟩ : AOrder)) Y (by intro _; apply cB) rfl zy (fun _ _ => rfl) fun g7 ZK vG => ?_
 refine ap (ys := ([(⟨1, c.ID, c.ay, c.Sum, (dX c ns ah (aO ks ns ls) aJ).1, (dX c ns ah (aO ks ns ls) aJ).1, now + aY⟩ : AOrder)] : List AOrder)) vG s1 Y Y (vG.o s0) Tryz.underlying29 vK (by simp only [List.length_append, List.length_nil]; omega) (by simp) rfl fun Ap4 cp4 YR sJ => ?_
 refine aR Y <| dn <| rg <| mv Y <| mv Y <| ev (Ev.nilCheck Y) <| ev (Ev.field (q := ⟨g, 3, none⟩) jN Y Y) <| ev (Ev.field (q := ⟨g, 5, none⟩) jc Y Y) ?_
 refine BK Y Y Y EM sJ s2 Y fun ZL yO => ?_
 refine dn ?_
 refine Hf yO (fun _ K => ((K.rm s9).rm s0)) (fun l0 rk lJ wJ => ∃ (Ai : an3) (Aj : Nat), lJ = l0 ∧ Hp b S wJ (dG g 87 [.slice AN ns.length cN, .slice AK ks.length cK, v2, v3, .slice AL ls.length cL, .slice Ap4 (((([] : List AOrder) ++ ds) ++ ([(⟨1, c.ID, c.ay, c.Sum, (dX c ns ah (aO ks ns ls) aJ).1, (dX c ns ah (aO ks ns ls) aJ).1, now + aY⟩ : AOrder)] : List AOrder)).length) cp4, v6, v7, v8, .int .i64 aJ, .int .i64 aY, v11, .int .i64 now, .slice AV ah.length cV, .slice o9 ((os ++ ([(⟨1, c.ID, c.ay, c.Sum, (dX c ns ah (aO ks ns ls) aJ).1, (dX c ns ah (aO ks ns ls) aJ).1, now + aY⟩ : AOrder)] : List AOrder)).length) cj2, .slice Ai ((cs ++ ([(⟨0, 0, 6, c.ID, (dX c ns ah (aO ks ns ls) aJ).1, 0⟩ : iT)] : List iT)).length) Aj] :: aQ nI 60 Ai Aj (cs ++ ([(⟨0, 0, 6, c.ID, (dX c ns ah (aO ks ns ls) aJ).1, 0⟩ : iT)] : List iT)) :: rk)) (fun hns H5 => ?_) ?_
 ·
  have k14 := ((H5.rm s9).rm s0)
  refine Tm 0 1 hns Y Y k14 <| Tm 1 3 hns Y Y k14 <| Tn 2 7 hns Y (fun _ _ => Ev.nilCheck Y) k14 <| Tn 3 15 hns Y (fun _ _ => Ev.field (q := ⟨g, 15, none⟩) Ad Y Y) k14 ?_
  refine Tn 5 47 hns Y (fun _ _ => Ev.field (q := ⟨g1, 0, none⟩) gI Y Y) k14 <| Tn 6 111 hns Y (fun _ hK => Ev.aj bf Y (hK.x s6) Y) k14 ?_
  refine Tm 7 239 hns Y Y k14 <| Tn 8 495 hns Y (fun _ _ => Ev.build (vs := [(2, .int .i64 6), (3, .int .i64 c.ID), (4, .int .i64 ((dX c ns ah (aO ks ns ls) aJ).1))]) (cs := [.int .i64 0, .int .i64 0, .int .i64 6, .int .i64 c.ID, .int .i64 ((dX c ns ah (aO ks ns ls) aJ).1), .int .i64 0]) Y (by apply wU)) k14 ?_
  refine Jn H5 (fun l0 rk lJ wJ => ∃ (g8 : Nat), lJ = (85, .slice AC cs.length cC) :: (90, .slice (some ⟨g8, 0, none⟩) (([(⟨0, 0, 6, c.ID, (dX c ns ah (aO ks ns ls) aJ).1, 0⟩ : iT)] : List iT).length) 1) :: l0 ∧ Hp b S wJ (aQ nI 60 (some ⟨g8, 0, none⟩) 1 ([(⟨0, 0, 6, c.ID, (dX c ns ah (aO ks ns ls) aJ).1, 0⟩ : iT)] : List iT) :: rk)) 4 1023 ?_ fun hS2 => ?_
  ·
   rintro _ w27 ⟨g8, rfl, zA⟩
   refine O1 10 Y ?_
   refine ap (ys := ([(⟨0, 0, 6, c.ID, (dX c ns ah (aO ks ns ls) aJ).1, 0⟩ : iT)] : List iT)) zA s10 Y Y (zA.o s0) Tryz.underlying37 Z9 (by first | omega | (simp; omega) | (simp; done)) (by simp) rfl fun Ap6 cp6 ZM yP => ?_
   have k19 := (((yP.rm s2).rm s1).rm s0)
   refine WH.next k19 <| Tn 11 4095 hns Y (fun _ _ => Ev.nilCheck Y) k19 <| Tn 12 8191 hns Y (fun _ _ => Ev.field (q := ⟨g, 15, none⟩) Ad Y Y) k19 ?_
   refine O1 13 Y ?_
   refine BK Y Y Y aac yP s2 Y fun ZN Bd => ?_
   have k20 := (((Bd.rm s2).rm s1).rm s0)
   refine WH.next k20 ?_
   exact Dn ⟨Ap6, cp6, Y, (Bd.rm s2)⟩ Y
  refine O2 4 9 Y Y ?_ ?_
  ·
   refine ev (Ev.aj zR Y (H5.x s0) Y) <| WH.next k14 <| O1 9 Y ?_
   refine ni (τ := nI) (x := (⟨0, 0, 6, c.ID, (dX c ns ah (aO ks ns ls) aJ).1, 0⟩ : iT)) Y (by intro _; apply oz) rfl H5 (fun _ _ => rfl) fun g10 w30 Ah => ?_
   have k21 := (((Ah.rm s10).rm s1).rm s0)
   exact Kj hS2 k21 ⟨g10, Y, Ah⟩ Y
  ·
   refine ni (τ := nI) (x := (⟨0, 0, 6, c.ID, (dX c ns ah (aO ks ns ls) aJ).1, 0⟩ : iT)) Y (by intro _; apply oz) rfl H5 (fun _ _ => rfl) fun g11 w31 F4 => ?_
   have k22 := (((F4.rm s10).rm s1).rm s0)
   refine WH.next k22 <| O1 4 Y <| ev (Ev.aj zR Y (F4.x s1) Y) ?_
   exact Kj hS2 k22 ⟨g11, Y, F4⟩ Y
 rintro _ w32 ⟨Ai, Aj, rfl, FM⟩
 refine aA.nL (aA.aD Y Y Y ?_)
 have H6 := FM.fz s2
 have htr : (qP ls ks ns ah aJ (now + aY) c) = [OX c (dX c ns ah (aO ks ns ls) aJ).1 (now + aY)] := by unfold qP; rw [if_neg (by omega), if_pos (show (BA ls ks ns ah aJ c).2 = true by simpa [BA] using uN)]; rfl
 exact ⟨Y, _, _, _, _, _, _, by rw [htr]; exact ((((((((((H6.rm s9).rm s8).rm s6).rm s5).rm s3).sel s2).sel s3).sel s2).sel s4).sel s4)⟩
set_option maxHeartbeats 4000000 in
theorem ND {S0 : Nat → Prop} (w : World) (m : AMeta) {ku : an3} {kC : Nat} (Gi : Sl tNode S0 w ku kC m.bA) {kD : an3} {kE : Nat} (yT : Sl tChunk S0 w kD kE m.bC) {lH : an3} {lI : Nat} (SN : Sl tSession S0 w lH lI m.dS) (aH : ASoft) {mE : an3} {mF : Nat} (Q0 : Sl tBeat S0 w mE mF aH.bU) {mG : an3} {mH : Nat} (Q5 : Sl tLease S0 w mG mH aH.bI) {mI : an3} {mK : Nat} (Q7 : Sl tOrder S0 w mI mK aH.bH) (r : ARules) (now : Int) (hb : aH.bU.length ≤ 1000) (hl : aH.bI.length ≤ 64) (hd : aH.bH.length ≤ 50000) (hn : m.bA.length ≤ 1000) (hc : m.bC.length ≤ 1000) (hu : 0 ≤ now ∧ now ≤ 1099511627776) :
    bY Tryz.prog 14 #[.agg #[.slice ku m.bA.length kC, .slice kD m.bC.length kE, .slice lH m.dS.length lI], .agg #[.slice mE aH.bU.length mF, .slice mG aH.bI.length mH, .slice mI aH.bH.length mK], .agg #[.int .i64 r.eG, .int .i64 r.fU, .int .i64 r.All, .int .i64 r.gy, .int .i64 r.dW, .int .i64 r.aK], .int .i64 now] w fun v w' => ∃ (B0_0 : an3) (qG : Nat) (B0_1 : an3) (EP : Nat) (ER : an3) (ES : Nat) (A1 : an3) (c1 : Nat) (A2 : an3) (c2 : Nat), v = .tuple #[.agg #[.slice B0_0 (((gU m aH r now).bU).length) qG, .slice B0_1 (((gU m aH r now).bI).length) EP, .slice ER (((gU m aH r now).bH).length) ES], .slice A1 ((jH m aH r now).length) c1, .slice A2 ((kN m aH r now).length) c2] ∧ Hp w S0 w' [fM tBeat B0_0 qG ((gU m aH r now).bU), fM tLease B0_1 EP ((gU m aH r now).bI), fM tOrder ER ES ((gU m aH r now).bH), aQ tOrder 50 A1 c1 (jH m aH r now), aQ nI 60 A2 c2 (kN m aH r now)] := by
 refine WP.enter Tryz.func14 Y Tryz.ntmps14 Y ?_
 have H0 := Hp.init w S0
 refine rg ?_
 refine bx Y Y H0 fun g1 w1 K1 => ?_
 refine bx Y Y K1 fun g2 w2 K2 => ?_
 refine bx Y Y K2 fun g3 w3 K3 => ?_
 refine al rR Y K3 fun g4 w4 K4 => ?_
 refine aR Y <| aR Y <| dn <| rg <| ev (Ev.bX zT Y Y (K4.x s1)) ?_
 refine C0 K4 Y Y Y aaM (Iy (S0 := Any) _ r) fun w5 K5 => ?_
 refine aR Y <| dn <| rg <| ev (Ev.field (q := ⟨g1, 1, none⟩) mg Y Y) <| ev (Ev.aj nM Y (K5.x s3) Y) ?_
 refine C0 K5 Y Y Y Xb (BF _ (K5.a yT).any) fun w6 K6 => ?_
 refine aR Y <| dn <| WP.seq <| rg <| mv Y <| ev (Ev.not Y) <| mv Y ?_
 refine WL.dR 3 32 ((!(jD r)) || (!(jA m.bC))) ?_ ?_
 ·
  cases anr : (!(jD r)) with
  | true =>
   refine WL.pass Y Y Y <| WL.pass Y Y Y <| ev (Ev.bq Y Y) ?_
   exact WL.bM Y
  | false =>
   refine WL.bF Y (Ev.move Y) Y <| WL.bF Y (Ev.not Y) Y <| ev (Ev.bn Y Y) ?_
   exact WL.bM Y
 refine dn ?_
 refine WP.aG Y (fun hc32 => ?_) (fun hc32 => ?_)
 ·
  have hrb : MO m r = false := by unfold MO; revert hc32; cases jD r <;> cases jA m.bC <;> simp
  refine rg <| ev (Ev.bX kW Y Y (K6.x s2)) ?_
  refine iW Y Y Y rT K6 s0 Y Y fun w7 K7 => ?_
  refine aR Y <| aR Y <| dn ?_
  refine WP.ret (aA.aP (aA.oG Y ⟨_, _, Y, ⟨_, Y, eH (cs := [.slice mE aH.bU.length mF, .slice mG aH.bI.length mH, .slice mI aH.bH.length mK]) kW Y (K7.x s0)⟩, ⟨_, _, Y, Y, ⟨_, _, Y, Y, Y⟩⟩⟩ ?_))
  have hq1 : (aH : ASoft) = (gU m aH r now) := by unfold gU; rw [if_neg (by rw [hrb]; decide)]
  have H1 := K7.push (K7.a Q0)
  have hq2 : (aH.bU : List ABeat) = ((gU m aH r now).bU) := by rw [← hq1]
  have H2 := H1.push (H1.a Q5)
  have hq3 : (aH.bI : List ALease) = ((gU m aH r now).bI) := by rw [← hq1]
  have H3 := H2.push (H2.a Q7)
  have hq4 : (aH.bH : List AOrder) = ((gU m aH r now).bH) := by rw [← hq1]
  have H4 := H3.nil tOrder 50
  have kP : (([] : List AOrder) : List AOrder) = (jH m aH r now) := by unfold jH; rw [if_neg (by rw [hrb]; decide)]
  have H5 := (kP ▸ H4 : Hp w S0 w7 (aQ tOrder 50 none 0 (jH m aH r now) :: [fM tOrder mI mK aH.bH, fM tLease mG mH aH.bI, fM tBeat mE mF aH.bU, dG g4 31 [.slice mE aH.bU.length mF, .slice mG aH.bI.length mH, .slice mI aH.bH.length mK], dG g3 33 [.int .i64 r.eG, .int .i64 r.fU, .int .i64 r.All, .int .i64 r.gy, .int .i64 r.dW, .int .i64 r.aK], dG g2 31 [.slice mE aH.bU.length mF, .slice mG aH.bI.length mH, .slice mI aH.bH.length mK], dG g1 26 [.slice ku m.bA.length kC, .slice kD m.bC.length kE, .slice lH m.dS.length lI]]))
  have H6 := H5.nil nI 60
  have ny : (([] : List iT) : List iT) = (kN m aH r now) := by unfold kN; rw [if_neg (by rw [hrb]; decide)]
  have H7 := (ny ▸ H6 : Hp w S0 w7 (aQ nI 60 none 0 (kN m aH r now) :: [aQ tOrder 50 none 0 (jH m aH r now), fM tOrder mI mK aH.bH, fM tLease mG mH aH.bI, fM tBeat mE mF aH.bU, dG g4 31 [.slice mE aH.bU.length mF, .slice mG aH.bI.length mH, .slice mI aH.bH.length mK], dG g3 33 [.int .i64 r.eG, .int .i64 r.fU, .int .i64 r.All, .int .i64 r.gy, .int .i64 r.dW, .int .i64 r.aK], dG g2 31 [.slice mE aH.bU.length mF, .slice mG aH.bI.length mH, .slice mI aH.bH.length mK], dG g1 26 [.slice ku m.bA.length kC, .slice kD m.bC.length kE, .slice lH m.dS.length lI]]))
  exact ⟨mE, mF, mG, mH, mI, mK, none, 0, none, 0, by first | (rw [hq2, hq3, hq4, ← kP, ← ny] <;> rfl) | (rw [hq2, hq3, hq4, ← kP, ← ny] <;> rfl), by rw [← hq2, ← hq3, ← hq4]; exact (((((((((H7.rm s8).rm s7).rm s6).rm s5).sel s0).sel s1).sel s2).sel s3).sel s4)⟩
 have hrb : jD r = true ∧ jA m.bC = true := by revert hc32; cases jD r <;> cases jA m.bC <;> simp
 refine WP.skip (aA.norm ?_)
 refine He K6 (fun _ K => K) (fun l0 rk lJ wJ => ∃ (iZ : Nat) (jw : an3) (jy : Nat) (o9 : an3) (cj2 : Nat) (Ai : an3) (Aj : Nat), lJ = (13, .pointer (some ⟨iZ, 0, none⟩)) :: l0 ∧ Hp w S0 wJ (dG iZ 87 [.slice ku m.bA.length kC, .slice kD m.bC.length kE, .slice lH m.dS.length lI, .slice jw (((bD aH now).bU).length) jy, .slice o9 (((bD aH now).bI).length) cj2, .slice Ai (((bD aH now).bH).length) Aj, .int .i64 r.eG, .int .i64 r.fU, .int .i64 r.All, .int .i64 r.gy, .int .i64 r.dW, .int .i64 r.aK, .int .i64 now, .slice none 0 0, .slice none 0 0, .slice none 0 0] :: fM tBeat jw jy ((bD aH now).bU) :: fM tLease o9 cj2 ((bD aH now).bI) :: fM tOrder Ai Aj ((bD aH now).bH) :: rk)) (fun hns H8 => ?_) ?_
 ·
  refine Tn 0 1 hns Y (fun _ hK => Ev.bX MR Y Y (hK.x s3)) H8 <| Tn 1 3 hns Y (fun _ hK => Ev.bX kW Y Y (hK.x s2)) H8 <| Tm 2 7 hns Y Y H8 ?_
  refine Tn 4 23 hns Y (fun _ hK => Ev.bX zT Y Y (hK.x s1)) H8 <| Tm 5 55 hns Y Y H8 <| O1 3 Y <| WL.call Y Y Y aaN (FJ _ aH (H8.a Q0) (H8.a Q5) (H8.a Q7) now (by omega) (by omega)) Y ?_
  rintro _ w8 ⟨PK, PL, PN, PO, PS, PU, rfl, h8⟩
  have K8 := H8.c3 h8
  have Qh := (K8.s s0).aN
  have aey := (K8.s s1).aN
  have alB := (K8.s s2).aN
  have k1 := (((K8.rm s2).rm s1).rm s0)
  refine WH.next k1 <| Tn 6 127 hns Y (fun _ _ => Ev.build (vs := [(0, .agg #[.slice ku m.bA.length kC, .slice kD m.bC.length kE, .slice lH m.dS.length lI]), (1, .agg #[.slice PK (((bD aH now).bU).length) PL, .slice PN (((bD aH now).bI).length) PO, .slice PS (((bD aH now).bH).length) PU]), (2, .agg #[.int .i64 r.eG, .int .i64 r.fU, .int .i64 r.All, .int .i64 r.gy, .int .i64 r.dW, .int .i64 r.aK]), (3, .int .i64 now)]) (cs := [.slice ku m.bA.length kC, .slice kD m.bC.length kE, .slice lH m.dS.length lI, .slice PK (((bD aH now).bU).length) PL, .slice PN (((bD aH now).bI).length) PO, .slice PS (((bD aH now).bH).length) PU, .int .i64 r.eG, .int .i64 r.fU, .int .i64 r.All, .int .i64 r.gy, .int .i64 r.dW, .int .i64 r.aK, .int .i64 now, .slice none 0 0, .slice none 0 0, .slice none 0 0]) Y (by apply Ae)) k1 ?_
  refine O1 7 Y ?_
  refine bx Y Y K8 fun g5 w9 K9 => ?_
  have k2 := ((((K9.rm s3).rm s2).rm s1).rm s0)
  refine WH.next k2 <| Ta 8 511 hns Y Y k2 ?_
  exact Dn ⟨g5, PK, PL, PN, PO, PS, PU, Y, K9⟩ Y
 rintro _ J8 ⟨iZ, jw, jy, o9, cj2, Ai, Aj, rfl, K10⟩
 refine He K10 (fun _ K => (K.rm s0)) (fun l0 rk lJ wJ => ∃ (vL : an3) (vM : Nat), lJ = l0 ∧ Hp w S0 wJ (dG iZ 87 [.slice ku m.bA.length kC, .slice kD m.bC.length kE, .slice lH m.dS.length lI, .slice jw (((bD aH now).bU).length) jy, .slice o9 (((bD aH now).bI).length) cj2, .slice Ai (((bD aH now).bH).length) Aj, .int .i64 r.eG, .int .i64 r.fU, .int .i64 r.All, .int .i64 r.gy, .int .i64 r.dW, .int .i64 r.aK, .int .i64 now, .slice vL ((gq aH r now).length) vM, .slice none 0 0, .slice none 0 0] :: aQ tInt 3 vL vM (gq aH r now) :: rk)) (fun hns H9 => ?_) ?_
 ·
  have k3 := (H9.rm s0)
  refine Tm 0 1 hns Y Y k3 <| Tm 1 3 hns Y Y k3 <| Tn 2 7 hns Y (fun _ _ => Ev.nilCheck Y) k3 <| Tn 3 15 hns Y (fun _ _ => Ev.field (q := ⟨iZ, 3, none⟩) jN Y Y) k3 ?_
  refine Tn 4 31 hns Y (fun _ _ => Ev.field (q := ⟨iZ, 3, none⟩) qh Y Y) k3 <| Tm 6 95 hns Y Y k3 <| Tn 7 223 hns Y (fun _ _ => Ev.field (q := ⟨g3, 0, none⟩) Da Y Y) k3 ?_
  refine Tn 8 479 hns Y (fun _ hK => Ev.aj bf Y (hK.x s4) Y) k3 <| O1 5 Y <| ev (Ev.aj zK Y (H9.x s0) Y) <| WH.next k3 <| O1 9 Y <| WL.call Y Y Y agM (Py _ (H9.s s1).any now r.eG (Nat.le_trans hb (by decide))) Y ?_
  rintro _ Om ⟨agQ, agR, rfl, h11⟩
  have qb := H9.f1 h11
  have aj5 := (qb.o s0).aN
  have k4 := ((qb.rm s1).rm s0)
  refine WH.next k4 <| Tn 10 2047 hns Y (fun _ _ => Ev.nilCheck Y) k4 <| Tn 11 4095 hns Y (fun _ _ => Ev.field (q := ⟨iZ, 13, none⟩) xZ Y Y) k4 ?_
  refine O1 12 Y ?_
  refine BK Y Y Y zm qb s1 Y fun Le oH => ?_
  have k5 := ((oH.rm s1).rm s0)
  refine WH.next k5 ?_
  exact Dn ⟨agQ, agR, Y, oH⟩ Y
 rintro _ RY ⟨vL, vM, rfl, sP⟩
 refine He sP (fun _ K => K) (fun l0 rk lJ wJ => ∃ (TR : an3) (TS : Nat), lJ = (14, .slice TR ((fV m aH now).length) TS) :: l0 ∧ Hp w S0 wJ (aQ tChunk 53 TR TS (fV m aH now) :: rk)) (fun hns Cc => ?_) ?_
 ·
  refine Tn 0 1 hns Y (fun _ _ => Ev.field (q := ⟨g1, 1, none⟩) mg Y Y) Cc <| Tn 1 3 hns Y (fun _ hK => Ev.aj nM Y (hK.x s8) Y) Cc ?_
  refine Tm 2 7 hns Y Y Cc <| Tn 3 15 hns Y (fun _ _ => Ev.nilCheck Y) Cc <| Tn 4 31 hns Y (fun _ _ => Ev.field (q := ⟨iZ, 3, none⟩) jN Y Y) Cc ?_
  refine Tn 5 63 hns Y (fun _ _ => Ev.field (q := ⟨iZ, 5, none⟩) jc Y Y) Cc <| Tn 6 127 hns Y (fun _ hK => Ev.aj gV Y (hK.x s0) Y) Cc ?_
  refine O1 7 Y <| WL.call Y Y Y aaO (FK _ (Cc.a yT) (Cc.s s4) (by omega) (by have := (xW aH now).2; omega) (zS hrb.2 _ (by decide))) rfl ?_
  rintro _ RZ ⟨XI, XJ, rfl, h14⟩
  have nO := Cc.c1 h14
  have adl := (nO.o s0).aN
  have k6 := (nO.rm s0)
  refine WH.next k6 <| Ta 8 511 hns Y Y k6 ?_
  exact Dn ⟨XI, XJ, Y, nO⟩ Y
 rintro _ TM ⟨TR, TS, rfl, vW⟩
 refine He vW (fun _ K => K) (fun l0 rk lJ wJ => ∃ (TT : an3) (TU : Nat), lJ = (15, .slice TT ((qy m aH r now).length) TU) :: l0 ∧ Hp w S0 wJ (aQ fP 90 TT TU (qy m aH r now) :: rk)) (fun hns OZ => ?_) ?_
 ·
  refine Tm 0 1 hns Y Y OZ <| Tn 1 3 hns Y (fun _ _ => Ev.field (q := ⟨g1, 0, none⟩) oq Y Y) OZ <| Tn 2 7 hns Y (fun _ hK => Ev.aj lS Y (hK.x s9) Y) OZ ?_
  refine Tm 3 15 hns Y Y OZ <| Tn 4 31 hns Y (fun _ _ => Ev.nilCheck Y) OZ <| Tn 5 63 hns Y (fun _ _ => Ev.field (q := ⟨iZ, 13, none⟩) xZ Y Y) OZ ?_
  refine Tn 6 127 hns Y (fun _ hK => Ev.aj gK Y (hK.x s1) Y) OZ <| Tn 7 255 hns Y (fun _ _ => Ev.field (q := ⟨g3, 3, none⟩) rQ Y Y) OZ ?_
  refine Tn 8 511 hns Y (fun _ hK => Ev.aj bf Y (hK.x s7) Y) OZ <| O1 9 Y <| WL.call Y Y Y agN (Nu _ (OZ.o s0) (OZ.a Gi).any (OZ.o s2) r.gy (by have := qz m.bC (bD aH now).bH; show (iN m.bC (bD aH now).bH).length ≤ _; omega) (u7 hrb.2 _ _ (by decide))) rfl ?_
  rintro _ w16 ⟨Ls, Lu, rfl, h16⟩
  have tQ := OZ.f1 h16
  have JA := (tQ.o s0).aN
  have k7 := (tQ.rm s0)
  refine WH.next k7 <| Ta 10 2047 hns Y Y k7 ?_
  exact Dn ⟨Ls, Lu, Y, tQ⟩ Y
 rintro _ Vh ⟨TT, TU, rfl, qp⟩
 refine WP.seq ?_
 have H12 := qp.fz s3
 have H13 := H12.fz s2
 have H14 := H13.push (H13.a Gi)
 have H15 := H14.push (H14.a yT)
 have H16 := H15.nil tOrder 50
 have H17 := H16.nil nI 60
 have hbd := HY hrb.1
 have hpl := xW aH now
 have hsl : (fV m aH now).length = m.bC.length := qz _ _
 have hnl : (qy m aH r now).length ≤ (fV m aH now).length := EL _ _ _ _
 have hcl := (j4.1 hrb.2).2.1
 have hll : (bD aH now).bI.length ≤ 64 := Nat.le_trans hpl.1 hl
 have hrl := fun (N : List bK) => E5 (x := (Ak m aH r now)) hbd.2.2.2.1.2 N ((bD aH now).bI, []) hll
 have hrm : ∀ N, (iP (Ak m aH r now) N ((bD aH now).bI, [])).1.length ≤ 64 ∧ (iP (Ak m aH r now) N ((bD aH now).bI, [])).2.length ≤ 64 := fun N => by have h2 := (hrl N).2; have h1 := (hrl N).1; simp only [List.length_nil] at h2; exact ⟨h1, by omega⟩
 refine rg <| aR Y <| dn <| WP.block ?_
 have kT : ((bD aH now).bI : List ALease) = (iP (Ak m aH r now) ((qy m aH r now).take 0) ((bD aH now).bI, [])).1 := by rfl
 rw [kT] at H17
 have H18 := H17.nil tOrder 50
 have hq8 : ([] : List AOrder) = (iP (Ak m aH r now) ((qy m aH r now).take 0) ((bD aH now).bI, [])).2 := by rfl
 rw [hq8] at H18
 have uj : (.slice o9 (((bD aH now).bI).length) cj2 : Value) = .slice o9 (((iP (Ak m aH r now) ((qy m aH r now).take 0) ((bD aH now).bI, [])).1).length) cj2 := by rfl
 try rw [uj] at H18
 have jK : (.slice none 0 0 : Value) = .slice none (((iP (Ak m aH r now) ((qy m aH r now).take 0) ((bD aH now).bI, [])).2).length) 0 := by rfl
 try rw [jK] at H18
 refine Lp ((((H18.rm s10).rm s8).rm s1).rm s0) (fun l0 rk mJ lJ wJ => ∃ (k : Nat) (A4 : an3) (c4 : Nat) (IB : an3) (c14 : Nat), lJ = (16, .int .i64 ((k : Nat) : Int)) :: l0 ∧ mJ = (qy m aH r now).length - k ∧ k ≤ (qy m aH r now).length ∧ Hp w S0 wJ (fM tLease A4 c4 ((iP (Ak m aH r now) ((qy m aH r now).take k) ((bD aH now).bI, [])).1) :: aQ tOrder 50 IB c14 ((iP (Ak m aH r now) ((qy m aH r now).take k) ((bD aH now).bI, [])).2) :: dG iZ 87 [.slice ku m.bA.length kC, .slice kD m.bC.length kE, .slice lH m.dS.length lI, .slice jw (((bD aH now).bU).length) jy, .slice A4 (((iP (Ak m aH r now) ((qy m aH r now).take k) ((bD aH now).bI, [])).1).length) c4, .slice Ai (((bD aH now).bH).length) Aj, .int .i64 r.eG, .int .i64 r.fU, .int .i64 r.All, .int .i64 r.gy, .int .i64 r.dW, .int .i64 r.aK, .int .i64 now, .slice vL ((gq aH r now).length) vM, .slice IB (((iP (Ak m aH r now) ((qy m aH r now).take k) ((bD aH now).bI, [])).2).length) c14, .slice none 0 0] :: rk)) ⟨0, o9, cj2, none, 0, Y, Y, Nat.zero_le _, (((((((((((H18.rm s1).sel s8).sel s7).sel s7).sel s7).sel s7).sel s7).sel s7).sel s8).sel s8).sel s9)⟩ Y ?_
 rintro _ _ Yb ⟨k, A4, c4, IB, c14, rfl, rfl, hk, vX⟩
 refine WP.seq <| rg <| mv Y <| mv Y <| ev (Ev.len Tryz.underlying82 Y) <| ev (Ev.lss Y Y) <| dn ?_
 refine WP.aG Y (fun X3 => ?_) (fun X3 => ?_)
 ·
  replace X3 := of_decide_eq_true X3
  refine WP.skip (aA.norm ?_)
  refine WP.seq <| WP.block <| eP <| mv Y <| mv Y <| mv Y ?_
  obtain ⟨x1, hx1⟩ := get_some (xs := (qy m aH r now)) (i := k) (by omega)
  refine ev (Ev.index (i := k) Tryz.underlying82 iK Y Y Y (aC hx1) ((vX.o s8).some_ hx1)) <| ev (Ev.loadRow jW Y Y ((vX.o s8).dx hx1)) ?_
  refine mv Y <| WL.call Y Y Y agO (Zo (((((((((((vX.sel s9).sel s9).sel s5).sel s8).sel s9).sel s8).sel s9).sel s10).sel s9).sel s9).sel s10) x1 (hrm _).1 (by omega) (Nat.le_trans (hrm _).2 (by decide)) (by omega) (by omega) (zS hrb.2 _ (by decide)) (u7 hrb.2 _ _ (by decide)) (by omega) (Wp hrb.2 aH r now _ (bV hx1)) (by omega)) Y ?_
  rintro _ ZJ ⟨rfl, Yg, Yh, Ag2, cg2, zy⟩
  refine eT ?_
  refine aA.aS (aA.norm ?_)
  refine eP <| mv Y <| ev (Ev.add Y Y (eX.mk (by omega) (by omega))) <| aR Y <| eT ?_
  have hq11 : ((uY (Ak m aH r now) ((iP (Ak m aH r now) ((qy m aH r now).take k) ((bD aH now).bI, [])).1, (iP (Ak m aH r now) ((qy m aH r now).take k) ((bD aH now).bI, [])).2) x1).1 : List ALease) = (iP (Ak m aH r now) ((qy m aH r now).take (k + 1)) ((bD aH now).bI, [])).1 := by rw [oP hx1]
  rw [hq11] at zy
  have hq12 : ((uY (Ak m aH r now) ((iP (Ak m aH r now) ((qy m aH r now).take k) ((bD aH now).bI, [])).1, (iP (Ak m aH r now) ((qy m aH r now).take k) ((bD aH now).bI, [])).2) x1).2 : List AOrder) = (iP (Ak m aH r now) ((qy m aH r now).take (k + 1)) ((bD aH now).bI, [])).2 := by rw [oP hx1]
  rw [hq12] at zy
  have qY : (.slice Yg (((uY (Ak m aH r now) ((iP (Ak m aH r now) ((qy m aH r now).take k) ((bD aH now).bI, [])).1, (iP (Ak m aH r now) ((qy m aH r now).take k) ((bD aH now).bI, [])).2) x1).1).length) Yh : Value) = .slice Yg (((iP (Ak m aH r now) ((qy m aH r now).take (k + 1)) ((bD aH now).bI, [])).1).length) Yh := by first | rfl | (rw [oP hx1])
  try rw [qY] at zy
  exact aA.ag ⟨(k + 1), Yg, Yh, Ag2, cg2, Y, Y, by omega, (((((((((((zy.sel s3).sel s10).sel s10).sel s8).sel s9).sel s8).sel s9).sel s10).sel s8).sel s10).sel s10)⟩ rfl (by omega)
 replace X3 := of_decide_eq_false X3
 refine WP.exit (aA.aF (aA.aF (aA.bS (aA.norm ?_))))
 refine WP.seq ?_
 have hfk : (qy m aH r now).take k = qy m aH r now := List.take_of_length_le (by omega)
 rw [hfk, show iP (Ak m aH r now) (qy m aH r now) ((bD aH now).bI, []) = iQ m aH r now from rfl] at vX
 have WJ : (iQ m aH r now).1.length ≤ 64 := (hrm _).1
 have hrl2 : (iQ m aH r now).2.length ≤ 64 := (hrm _).2
 refine rg <| aR Y <| dn <| WP.block ?_
 have Bf : ((bD aH now).bH : List AOrder) = ((bD aH now).bH ++ (fA (iQ m aH r now).1 m.bC m.bA (gq aH r now) r.gy (now + r.dW) ((fV m aH now).take 0))) := by rw [List.take_zero]; exact (List.append_nil _).symm
 rw [Bf] at vX
 have Eb : ((iQ m aH r now).2 : List AOrder) = ((iQ m aH r now).2 ++ (fA (iQ m aH r now).1 m.bC m.bA (gq aH r now) r.gy (now + r.dW) ((fV m aH now).take 0))) := by rw [List.take_zero]; exact (List.append_nil _).symm
 rw [Eb] at vX
 have H19 := vX.nil nI 60
 have Ec : ([] : List iT) = ((fA (iQ m aH r now).1 m.bC m.bA (gq aH r now) r.gy (now + r.dW) ((fV m aH now).take 0)).map gY) := by rfl
 rw [Ec] at H19
 have Ed : (.slice Ai (((bD aH now).bH).length) Aj : Value) = .slice Ai (((bD aH now).bH ++ (fA (iQ m aH r now).1 m.bC m.bA (gq aH r now) r.gy (now + r.dW) ((fV m aH now).take 0))).length) Aj := by first | rfl | (rw [List.take_zero]; simp [fA])
 try rw [Ed] at H19
 have CQ : (.slice none 0 0 : Value) = .slice none (((fA (iQ m aH r now).1 m.bC m.bA (gq aH r now) r.gy (now + r.dW) ((fV m aH now).take 0)).map gY).length) 0 := by first | rfl | (rw [List.take_zero]; simp [fA])
 try rw [CQ] at H19
 refine Lp (((((H19.rm s11).rm s4).rm s3).rm s2).rm s0) (fun l0 rk mJ lJ wJ => ∃ (k : Nat) (A5 : an3) (c5 : Nat) (IB : an3) (c14 : Nat) (um : an3) (c15 : Nat), lJ = (17, .int .i64 ((k : Nat) : Int)) :: l0 ∧ mJ = (fV m aH now).length - k ∧ k ≤ (fV m aH now).length ∧ Hp w S0 wJ (fM tOrder A5 c5 ((bD aH now).bH ++ (fA (iQ m aH r now).1 m.bC m.bA (gq aH r now) r.gy (now + r.dW) ((fV m aH now).take k))) :: aQ tOrder 50 IB c14 ((iQ m aH r now).2 ++ (fA (iQ m aH r now).1 m.bC m.bA (gq aH r now) r.gy (now + r.dW) ((fV m aH now).take k))) :: aQ nI 60 um c15 ((fA (iQ m aH r now).1 m.bC m.bA (gq aH r now) r.gy (now + r.dW) ((fV m aH now).take k)).map gY) :: dG iZ 87 [.slice ku m.bA.length kC, .slice kD m.bC.length kE, .slice lH m.dS.length lI, .slice jw (((bD aH now).bU).length) jy, .slice A4 (((iQ m aH r now).1).length) c4, .slice A5 (((bD aH now).bH ++ (fA (iQ m aH r now).1 m.bC m.bA (gq aH r now) r.gy (now + r.dW) ((fV m aH now).take k))).length) c5, .int .i64 r.eG, .int .i64 r.fU, .int .i64 r.All, .int .i64 r.gy, .int .i64 r.dW, .int .i64 r.aK, .int .i64 now, .slice vL ((gq aH r now).length) vM, .slice IB (((iQ m aH r now).2 ++ (fA (iQ m aH r now).1 m.bC m.bA (gq aH r now) r.gy (now + r.dW) ((fV m aH now).take k))).length) c14, .slice um (((fA (iQ m aH r now).1 m.bC m.bA (gq aH r now) r.gy (now + r.dW) ((fV m aH now).take k)).map gY).length) c15] :: rk)) ⟨0, Ai, Aj, IB, c14, none, 0, Y, Y, Nat.zero_le _, ((((((((((((H19.rm s4).sel s9).sel s9).sel s9).sel s9).sel s9).sel s9).sel s7).sel s9).sel s8).sel s9).sel s10)⟩ Y ?_
 rintro _ _ ZK ⟨k, A5, c5, IB, c14, um, c15, rfl, rfl, hk, vG⟩
 refine WP.seq <| rg <| mv Y <| mv Y <| ev (Ev.len Tryz.underlying23 Y) <| ev (Ev.lss Y Y) <| dn ?_
 refine WP.aG Y (fun X4 => ?_) (fun X4 => ?_)
 ·
  replace X4 := of_decide_eq_true X4
  refine WP.skip (aA.norm ?_)
  refine WP.seq <| WP.block ?_
  have htl : (fA (iQ m aH r now).1 m.bC m.bA (gq aH r now) r.gy (now + r.dW) ((fV m aH now).take k)).length ≤ k := Nat.le_trans (wT _ _ _ _ _ _ _) (by simp only [List.length_take]; omega)
  have hod : ((bD aH now).bH ++ (fA (iQ m aH r now).1 m.bC m.bA (gq aH r now) r.gy (now + r.dW) ((fV m aH now).take k))).length ≤ 100000 := by rw [List.length_append]; omega
  have hoo : ((iQ m aH r now).2 ++ (fA (iQ m aH r now).1 m.bC m.bA (gq aH r now) r.gy (now + r.dW) ((fV m aH now).take k))).length ≤ 100000 := by rw [List.length_append]; omega
  refine eP <| mv Y <| mv Y <| mv Y ?_
  obtain ⟨x2, hx2⟩ := get_some (xs := (fV m aH now)) (i := k) (by omega)
  refine ev (Ev.index (i := k) Tryz.underlying23 gu Y Y Y (aC hx2) ((vG.s s7).some_ hx2)) ?_
  obtain ⟨B1, d1, kL, hi1⟩ := AChunk.op (vG.is s7 hx2)
  have H20 := vG.push hi1
  refine ev (Ev.loadRow (cs := [.int .i64 x2.ID, .int .i64 x2.ay, .int .u32 x2.Sum, .slice B1 x2.av.length d1]) gQ Y Y (oJ kL)) <| WL.call Y Y Y agP (X0 (c := x2) ((((((((((H20.sel s8).sel s1).sel s9).sel s8).sel s9).sel s7).sel s7).sel s7).sel s9).sel s9) (Nat.le_trans WJ (by decide)) hod hoo (by rw [List.length_map]; omega) (by omega) (by omega) (u7 hrb.2 _ _ (by decide) _ (bV hx2)) (YC (IW (TK hrb.2 _) _ (bV hx2))) (by omega)) rfl ?_
  rintro _ YR ⟨rfl, NJ, NK, Ag4, cg4, Yi, Yj, sJ⟩
  refine eT ?_
  refine aA.aS (aA.norm ?_)
  refine eP <| mv Y <| ev (Ev.add Y Y (eX.mk (by omega) (by omega))) <| aR Y <| eT ?_
  have Bg : ((((bD aH now).bH ++ (fA (iQ m aH r now).1 m.bC m.bA (gq aH r now) r.gy (now + r.dW) ((fV m aH now).take k))) ++ (qP ((iQ m aH r now).1) m.bC m.bA (gq aH r now) r.gy (now + r.dW) x2)) : List AOrder) = ((bD aH now).bH ++ (fA (iQ m aH r now).1 m.bC m.bA (gq aH r now) r.gy (now + r.dW) ((fV m aH now).take (k + 1)))) := by rw [qx hx2, List.append_assoc]
  rw [Bg] at sJ
  have Lh : ((((iQ m aH r now).2 ++ (fA (iQ m aH r now).1 m.bC m.bA (gq aH r now) r.gy (now + r.dW) ((fV m aH now).take k))) ++ (qP ((iQ m aH r now).1) m.bC m.bA (gq aH r now) r.gy (now + r.dW) x2)) : List AOrder) = ((iQ m aH r now).2 ++ (fA (iQ m aH r now).1 m.bC m.bA (gq aH r now) r.gy (now + r.dW) ((fV m aH now).take (k + 1)))) := by rw [qx hx2, List.append_assoc]
  rw [Lh] at sJ
  have Ot : ((((fA (iQ m aH r now).1 m.bC m.bA (gq aH r now) r.gy (now + r.dW) ((fV m aH now).take k)).map gY) ++ (qP ((iQ m aH r now).1) m.bC m.bA (gq aH r now) r.gy (now + r.dW) x2).map gY) : List iT) = ((fA (iQ m aH r now).1 m.bC m.bA (gq aH r now) r.gy (now + r.dW) ((fV m aH now).take (k + 1))).map gY) := by rw [qx hx2, List.map_append]
  rw [Ot] at sJ
  have R3 : (.slice NJ ((((bD aH now).bH ++ (fA (iQ m aH r now).1 m.bC m.bA (gq aH r now) r.gy (now + r.dW) ((fV m aH now).take k))) ++ (qP ((iQ m aH r now).1) m.bC m.bA (gq aH r now) r.gy (now + r.dW) x2)).length) NK : Value) = .slice NJ (((bD aH now).bH ++ (fA (iQ m aH r now).1 m.bC m.bA (gq aH r now) r.gy (now + r.dW) ((fV m aH now).take (k + 1)))).length) NK := by first | rfl | (rw [qx hx2, List.append_assoc])
  try rw [R3] at sJ
  exact aA.ag ⟨(k + 1), NJ, NK, Ag4, cg4, Yi, Yj, Y, Y, by omega, ((((((((((sJ.rm s8).sel s7).sel s8).sel s7).sel s8).sel s5).sel s5).sel s8).sel s8).sel s8)⟩ rfl (by omega)
 replace X4 := of_decide_eq_false X4
 refine WP.exit (aA.aF (aA.aF (aA.bS (aA.norm ?_))))
 refine WP.seq ?_
 have hfs : (fV m aH now).take k = fV m aH now := List.take_of_length_le (by omega)
 rw [hfs] at vG
 have htl : (jZ m aH r now).length ≤ (fV m aH now).length := wT _ _ _ _ _ _ _
 have hol : ((iQ m aH r now).2 ++ jZ m aH r now).length ≤ 100000 := by rw [List.length_append]; omega
 refine rg <| mv Y <| ev (Ev.len Tryz.underlying82 Y) <| ev (Ev.eql Y Y) <| mv Y ?_
 refine WL.dR 8 108 ((decide ((((qy m aH r now).length : Nat) : Int) = 0)) && (decide (((((iQ m aH r now).1).length : Nat) : Int) = 0))) ?_ ?_
 ·
  cases agT : decide ((((qy m aH r now).length : Nat) : Int) = 0) with
  | true =>
   have aj6 := of_decide_eq_true agT
   refine WL.bF Y (Ev.move Y) Y <| WL.bF Y (Ev.nilCheck Y) Y <| WL.bF Y (Ev.field (q := ⟨iZ, 3, none⟩) jN Y Y) Y <| WL.bF Y (Ev.field (q := ⟨iZ, 4, none⟩) iV Y Y) Y ?_
   refine WL.bF Y (Ev.aj oo Y (vG.x s3) Y) Y <| WL.bF Y (Ev.len Tryz.underlying28 Y) Y <| WL.bF Y (Ev.eql Y Y) Y <| ev (Ev.bq Y Y) ?_
   exact WL.bM Y
  | false =>
   refine WL.pass Y Y Y <| WL.pass Y Y Y <| WL.pass Y Y Y <| WL.pass Y Y Y <| WL.pass Y Y Y <| WL.pass Y Y Y <| WL.pass Y Y Y <| ev (Ev.bn Y Y) ?_
   exact WL.bM Y
 refine mv Y ?_
 refine WL.dR 8 117 (((decide ((((qy m aH r now).length : Nat) : Int) = 0)) && (decide (((((iQ m aH r now).1).length : Nat) : Int) = 0))) && (decide (((((bD aH now).bH ++ (jZ m aH r now)).length : Nat) : Int) = 0))) ?_ ?_
 ·
  cases agU : ((decide ((((qy m aH r now).length : Nat) : Int) = 0)) && (decide (((((iQ m aH r now).1).length : Nat) : Int) = 0))) with
  | true =>
   have adI := agU
   try simp only [Bool.and_eq_true, Bool.and_eq_false_imp, decide_eq_true_eq, decide_eq_false_iff_not] at adI
   refine WL.bF Y (Ev.move Y) Y <| WL.bF Y (Ev.nilCheck Y) Y <| WL.bF Y (Ev.field (q := ⟨iZ, 3, none⟩) jN Y Y) Y <| WL.bF Y (Ev.field (q := ⟨iZ, 5, none⟩) jc Y Y) Y ?_
   refine WL.bF Y (Ev.aj gV Y (vG.x s3) Y) Y <| WL.bF Y (Ev.len Tryz.underlying29 Y) Y <| WL.bF Y (Ev.eql Y Y) Y <| ev (Ev.bq Y Y) ?_
   exact WL.bM Y
  | false =>
   refine WL.pass Y Y Y <| WL.pass Y Y Y <| WL.pass Y Y Y <| WL.pass Y Y Y <| WL.pass Y Y Y <| WL.pass Y Y Y <| WL.pass Y Y Y <| ev (Ev.bn Y Y) ?_
   exact WL.bM Y
 refine dn ?_
 refine WP.aG Y (fun Q8 => ?_) (fun Q8 => ?_)
 ·
  refine He vG (fun _ K => K) (fun l0 rk lJ wJ => ∃ (Cb : Nat), lJ = (18, .pointer (some ⟨Cb, 0, none⟩)) :: (19, .bool (moveB (fV m aH now) m.bA (gq aH r now) r.aK)) :: l0 ∧ Hp w S0 wJ (dG Cb 50 [.int .i64 ((aV (fV m aH now) m.bA (gq aH r now) r.aK).Kind), .int .i64 ((aV (fV m aH now) m.bA (gq aH r now) r.aK).aB), .int .i64 ((aV (fV m aH now) m.bA (gq aH r now) r.aK).ay), .int .u32 ((aV (fV m aH now) m.bA (gq aH r now) r.aK).Sum), .int .i64 ((aV (fV m aH now) m.bA (gq aH r now) r.aK).dw), .int .i64 ((aV (fV m aH now) m.bA (gq aH r now) r.aK).To), .int .i64 ((aV (fV m aH now) m.bA (gq aH r now) r.aK).dQ)] :: rk)) (fun hns PV => ?_) ?_
  ·
   refine Tm 0 1 hns Y Y PV <| Tn 1 3 hns Y (fun _ _ => Ev.field (q := ⟨g1, 0, none⟩) oq Y Y) PV <| Tn 2 7 hns Y (fun _ hK => Ev.aj lS Y (hK.x NM) Y) PV ?_
   refine Tm 3 15 hns Y Y PV <| Tn 4 31 hns Y (fun _ _ => Ev.nilCheck Y) PV <| Tn 5 63 hns Y (fun _ _ => Ev.field (q := ⟨iZ, 13, none⟩) xZ Y Y) PV ?_
   refine Tn 6 127 hns Y (fun _ hK => Ev.aj gK Y (hK.x s3) Y) PV <| Tn 7 255 hns Y (fun _ _ => Ev.field (q := ⟨g3, 5, none⟩) Dc Y Y) PV ?_
   refine Tn 8 511 hns Y (fun _ hK => Ev.aj bf Y (hK.x s12) Y) PV ?_
   refine Jn PV (fun l0 rk lJ wJ => ∃ (g6 : Nat), lJ = (18, .pointer (some ⟨g6, 0, none⟩)) :: (130, .bool (moveB (fV m aH now) m.bA (gq aH r now) r.aK)) :: l0 ∧ Hp w S0 wJ (dG g6 50 [.int .i64 ((aV (fV m aH now) m.bA (gq aH r now) r.aK).Kind), .int .i64 ((aV (fV m aH now) m.bA (gq aH r now) r.aK).aB), .int .i64 ((aV (fV m aH now) m.bA (gq aH r now) r.aK).ay), .int .u32 ((aV (fV m aH now) m.bA (gq aH r now) r.aK).Sum), .int .i64 ((aV (fV m aH now) m.bA (gq aH r now) r.aK).dw), .int .i64 ((aV (fV m aH now) m.bA (gq aH r now) r.aK).To), .int .i64 ((aV (fV m aH now) m.bA (gq aH r now) r.aK).dQ)] :: rk)) 1 32767 ?_ fun hS1 => ?_
   ·
    rintro _ ZM ⟨g6, rfl, yP⟩
    have k12 := (yP.rm s0)
    refine Ta 15 65535 hns Y Y k12 ?_
    exact Dn ⟨g6, Y, yP⟩ Y
   refine O2 9 13 Y Y ?_ ?_
   ·
    refine C0 PV Y Y Y aaP (Fv _ (PV.s s7).any (PV.s s6).any (PV.s s8).any r.aK (by omega)) fun ZN Bd => ?_
    refine WH.next Bd <| Tm 10 2047 hns Y Y Bd <| Tn 11 4095 hns Y (fun _ _ => Ev.extract (vs := [.agg #[.int .i64 ((aV (fV m aH now) m.bA (gq aH r now) r.aK).Kind), .int .i64 ((aV (fV m aH now) m.bA (gq aH r now) r.aK).aB), .int .i64 ((aV (fV m aH now) m.bA (gq aH r now) r.aK).ay), .int .u32 ((aV (fV m aH now) m.bA (gq aH r now) r.aK).Sum), .int .i64 ((aV (fV m aH now) m.bA (gq aH r now) r.aK).dw), .int .i64 ((aV (fV m aH now) m.bA (gq aH r now) r.aK).To), .int .i64 ((aV (fV m aH now) m.bA (gq aH r now) r.aK).dQ)], .bool (moveB (fV m aH now) m.bA (gq aH r now) r.aK)]) Y Y) Bd ?_
    refine Tn 12 8191 hns Y (fun _ _ => Ev.extract (vs := [.agg #[.int .i64 ((aV (fV m aH now) m.bA (gq aH r now) r.aK).Kind), .int .i64 ((aV (fV m aH now) m.bA (gq aH r now) r.aK).aB), .int .i64 ((aV (fV m aH now) m.bA (gq aH r now) r.aK).ay), .int .u32 ((aV (fV m aH now) m.bA (gq aH r now) r.aK).Sum), .int .i64 ((aV (fV m aH now) m.bA (gq aH r now) r.aK).dw), .int .i64 ((aV (fV m aH now) m.bA (gq aH r now) r.aK).To), .int .i64 ((aV (fV m aH now) m.bA (gq aH r now) r.aK).dQ)], .bool (moveB (fV m aH now) m.bA (gq aH r now) r.aK)]) Y Y) Bd ?_
    refine O1 13 Y ?_
    refine al jM Y Bd fun g8 w30 Ah => ?_
    have k13 := (Ah.rm s0)
    refine WH.next k13 <| O1 14 Y ?_
    refine iW Y Y Y gW Ah s0 Y Y fun w31 F4 => ?_
    have k14 := (F4.rm s0)
    exact Kj hS1 k14 ⟨g8, Y, F4⟩ Y
   ·
    refine al jM Y PV fun g9 w32 FM => ?_
    have k15 := (FM.rm s0)
    refine WH.next k15 <| O1 9 Y ?_
    refine C0 FM Y Y Y aaP (Fv _ (FM.s s8).any (FM.s s7).any (FM.s s9).any r.aK (by omega)) fun w33 Oo => ?_
    have k16 := (Oo.rm s0)
    refine WH.next k16 <| Tm 10 10239 hns Y Y k16 <| Tn 11 12287 hns Y (fun _ _ => Ev.extract (vs := [.agg #[.int .i64 ((aV (fV m aH now) m.bA (gq aH r now) r.aK).Kind), .int .i64 ((aV (fV m aH now) m.bA (gq aH r now) r.aK).aB), .int .i64 ((aV (fV m aH now) m.bA (gq aH r now) r.aK).ay), .int .u32 ((aV (fV m aH now) m.bA (gq aH r now) r.aK).Sum), .int .i64 ((aV (fV m aH now) m.bA (gq aH r now) r.aK).dw), .int .i64 ((aV (fV m aH now) m.bA (gq aH r now) r.aK).To), .int .i64 ((aV (fV m aH now) m.bA (gq aH r now) r.aK).dQ)], .bool (moveB (fV m aH now) m.bA (gq aH r now) r.aK)]) Y Y) k16 ?_
    refine Tn 12 16383 hns Y (fun _ _ => Ev.extract (vs := [.agg #[.int .i64 ((aV (fV m aH now) m.bA (gq aH r now) r.aK).Kind), .int .i64 ((aV (fV m aH now) m.bA (gq aH r now) r.aK).aB), .int .i64 ((aV (fV m aH now) m.bA (gq aH r now) r.aK).ay), .int .u32 ((aV (fV m aH now) m.bA (gq aH r now) r.aK).Sum), .int .i64 ((aV (fV m aH now) m.bA (gq aH r now) r.aK).dw), .int .i64 ((aV (fV m aH now) m.bA (gq aH r now) r.aK).To), .int .i64 ((aV (fV m aH now) m.bA (gq aH r now) r.aK).dQ)], .bool (moveB (fV m aH now) m.bA (gq aH r now) r.aK)]) Y Y) k16 ?_
    refine O1 14 Y ?_
    refine iW Y Y Y gW Oo s0 Y Y fun w34 Oq => ?_
    have k17 := (Oq.rm s0)
    exact Kj hS1 k17 ⟨g9, Y, Oq⟩ Y
  rintro _ w35 ⟨Cb, rfl, LZ⟩
  refine rg <| ev (Ev.field (q := ⟨g1, 1, none⟩) mg Y Y) <| ev (Ev.aj nM Y (LZ.x s15) Y) <| ev (Ev.field (q := ⟨Cb, 1, none⟩) xK Y Y) ?_
  refine ev (Ev.aj bf Y (LZ.x s0) Y) <| WL.call Y Y Y QZ (vw _ (LZ.s s6) ((aV (fV m aH now) m.bA (gq aH r now) r.aK).aB)) Y ?_
  rintro _ w36 ⟨Dq, Dr, rfl, h36⟩
  have L6 := LZ.c1 h36
  have aj7 := (L6.s s0).aN
  refine mv Y <| xt Y Y <| xt Y Y ?_
  refine al iI Y L6 fun g10 w37 L8 => ?_
  refine iW Y Y Y gu L8 s0 Y Y fun w38 TN => ?_
  refine aR Y <| dn <| rg <| mv Y <| dn ?_
  refine WP.aG Y (fun X5 => ?_) (fun X5 => ?_)
  ·
   refine eP <| mv Y <| ev (Ev.bX gQ Y Y (TN.x s0)) <| ev (Ev.field (q := ⟨Cb, 4, none⟩) Jl Y Y) <| ev (Ev.aj bf Y (TN.x s2) Y) <| ev (Ev.field (q := ⟨Cb, 5, none⟩) zM Y Y) <| ev (Ev.aj bf Y (TN.x s2) Y) <| WL.call Y Y Y aaL (NC ((((((((TN.sel s5).sel s4).sel s4).sel s4).sel s4).sel s5).sel s7).sel s7) (aL m.bC ((aV (fV m aH now) m.bA (gq aH r now) r.aK).aB)) ((aV (fV m aH now) m.bA (gq aH r now) r.aK).dw) ((aV (fV m aH now) m.bA (gq aH r now) r.aK).To) (Nat.le_trans WJ (by decide)) hol (by omega)) Y ?_
   rintro _ w39 ⟨rfl, Jq, Jr, OV, OW, K39⟩
   refine eT <| aA.norm ?_
   refine He K39 (fun _ K => (K.rm NM)) (fun l0 rk lJ wJ => lJ = (9, .slice OV ((mY ((iQ m aH r now).1) ((iQ m aH r now).2 ++ (jZ m aH r now)) r.fU r.All (aL m.bC ((aV (fV m aH now) m.bA (gq aH r now) r.aK).aB)) ((aV (fV m aH now) m.bA (gq aH r now) r.aK).dw) ((aV (fV m aH now) m.bA (gq aH r now) r.aK).To) (now + r.dW)).length) OW) :: (10, .slice um (((jZ m aH r now).map gY).length) c15) :: l0 ∧ Hp w S0 wJ [dG g4 31 [.slice jw (((bD aH now).bU).length) jy, .slice Jq ((kG ((iQ m aH r now).1) r.fU r.All (aL m.bC ((aV (fV m aH now) m.bA (gq aH r now) r.aK).aB)) ((aV (fV m aH now) m.bA (gq aH r now) r.aK).dw) ((aV (fV m aH now) m.bA (gq aH r now) r.aK).To) (now + r.dW)).length) Jr, .slice A5 (((bD aH now).bH ++ (jZ m aH r now)).length) c5], dG iZ 87 [.slice ku m.bA.length kC, .slice kD m.bC.length kE, .slice lH m.dS.length lI, .slice jw (((bD aH now).bU).length) jy, .slice Jq ((kG ((iQ m aH r now).1) r.fU r.All (aL m.bC ((aV (fV m aH now) m.bA (gq aH r now) r.aK).aB)) ((aV (fV m aH now) m.bA (gq aH r now) r.aK).dw) ((aV (fV m aH now) m.bA (gq aH r now) r.aK).To) (now + r.dW)).length) Jr, .slice A5 (((bD aH now).bH ++ (jZ m aH r now)).length) c5, .int .i64 r.eG, .int .i64 r.fU, .int .i64 r.All, .int .i64 r.gy, .int .i64 r.dW, .int .i64 r.aK, .int .i64 now, .slice vL ((gq aH r now).length) vM, .slice OV ((mY ((iQ m aH r now).1) ((iQ m aH r now).2 ++ (jZ m aH r now)) r.fU r.All (aL m.bC ((aV (fV m aH now) m.bA (gq aH r now) r.aK).aB)) ((aV (fV m aH now) m.bA (gq aH r now) r.aK).dw) ((aV (fV m aH now) m.bA (gq aH r now) r.aK).To) (now + r.dW)).length) OW, .slice um (((jZ m aH r now).map gY).length) c15], fM tLease Jq Jr (kG ((iQ m aH r now).1) r.fU r.All (aL m.bC ((aV (fV m aH now) m.bA (gq aH r now) r.aK).aB)) ((aV (fV m aH now) m.bA (gq aH r now) r.aK).dw) ((aV (fV m aH now) m.bA (gq aH r now) r.aK).To) (now + r.dW)), aQ tOrder 50 OV OW (mY ((iQ m aH r now).1) ((iQ m aH r now).2 ++ (jZ m aH r now)) r.fU r.All (aL m.bC ((aV (fV m aH now) m.bA (gq aH r now) r.aK).aB)) ((aV (fV m aH now) m.bA (gq aH r now) r.aK).dw) ((aV (fV m aH now) m.bA (gq aH r now) r.aK).To) (now + r.dW)), dG g10 53 [.int .i64 ((aL m.bC ((aV (fV m aH now) m.bA (gq aH r now) r.aK).aB)).ID), .int .i64 ((aL m.bC ((aV (fV m aH now) m.bA (gq aH r now) r.aK).aB)).ay), .int .u32 ((aL m.bC ((aV (fV m aH now) m.bA (gq aH r now) r.aK).aB)).Sum), .slice Dq (((aL m.bC ((aV (fV m aH now) m.bA (gq aH r now) r.aK).aB)).av).length) Dr], fM tInt Dq Dr ((aL m.bC ((aV (fV m aH now) m.bA (gq aH r now) r.aK).aB)).av), dG Cb 50 [.int .i64 ((aV (fV m aH now) m.bA (gq aH r now) r.aK).Kind), .int .i64 ((aV (fV m aH now) m.bA (gq aH r now) r.aK).aB), .int .i64 ((aV (fV m aH now) m.bA (gq aH r now) r.aK).ay), .int .u32 ((aV (fV m aH now) m.bA (gq aH r now) r.aK).Sum), .int .i64 ((aV (fV m aH now) m.bA (gq aH r now) r.aK).dw), .int .i64 ((aV (fV m aH now) m.bA (gq aH r now) r.aK).To), .int .i64 ((aV (fV m aH now) m.bA (gq aH r now) r.aK).dQ)], fM tOrder A5 c5 ((bD aH now).bH ++ (jZ m aH r now)), aQ nI 60 um c15 ((jZ m aH r now).map gY), fM tChunk kD kE m.bC, fM tNode ku kC m.bA, fM tChunk TR TS (fV m aH now), fM tInt vL vM (gq aH r now), aQ fP 90 TT TU (qy m aH r now), fM tBeat jw jy ((bD aH now).bU), dG g3 33 [.int .i64 r.eG, .int .i64 r.fU, .int .i64 r.All, .int .i64 r.gy, .int .i64 r.dW, .int .i64 r.aK], dG g2 31 [.slice mE aH.bU.length mF, .slice mG aH.bI.length mH, .slice mI aH.bH.length mK], dG g1 26 [.slice ku m.bA.length kC, .slice kD m.bC.length kE, .slice lH m.dS.length lI]]) (fun hns H22 => ?_) ?_
   ·
    have k18 := (H22.rm NM)
    refine Tm 0 1 hns Y Y k18 <| Tn 1 3 hns Y (fun _ _ => Ev.nilCheck Y) k18 <| Tn 2 7 hns Y (fun _ _ => Ev.field (q := ⟨iZ, 3, none⟩) jN Y Y) k18 ?_
    refine Tn 3 15 hns Y (fun _ hK => Ev.oZ (cs' := [.slice jw (((bD aH now).bU).length) jy, .slice Jq ((kG ((iQ m aH r now).1) r.fU r.All (aL m.bC ((aV (fV m aH now) m.bA (gq aH r now) r.aK).aB)) ((aV (fV m aH now) m.bA (gq aH r now) r.aK).dw) ((aV (fV m aH now) m.bA (gq aH r now) r.aK).To) (now + r.dW)).length) Jr, .slice A5 (((bD aH now).bH ++ (jZ m aH r now)).length) c5]) kW Y Y (hK.x s0) Y) k18 ?_
    refine Tm 4 31 hns Y Y k18 <| Tn 5 63 hns Y (fun _ _ => Ev.nilCheck Y) k18 <| Tn 6 127 hns Y (fun _ _ => Ev.field (q := ⟨iZ, 14, none⟩) vF Y Y) k18 ?_
    refine Tn 7 255 hns Y (fun _ hK => Ev.aj gV Y (hK.x s0) Y) k18 <| Tm 8 511 hns Y Y k18 <| Tn 9 1023 hns Y (fun _ _ => Ev.nilCheck Y) k18 ?_
    refine Tn 10 2047 hns Y (fun _ _ => Ev.field (q := ⟨iZ, 15, none⟩) Ad Y Y) k18 <| Tn 11 4095 hns Y (fun _ hK => Ev.aj zR Y (hK.x s0) Y) k18 ?_
    refine O1 12 Y ?_
    refine iW Y Y Y rT H22 NM Y Y fun w40 K40 => ?_
    have k19 := (K40.rm s0)
    refine WH.next k19 <| Ta 13 16383 hns Y Y k19 <| Ta 14 32767 hns Y Y k19 ?_
    exact Dn ⟨Y, K40⟩ Y
   rintro _ w41 ⟨rfl, Y6⟩
   refine WP.ret (aA.oG Y ⟨_, _, Y, ⟨_, Y, eH (cs := [.slice jw (((bD aH now).bU).length) jy, .slice Jq ((kG ((iQ m aH r now).1) r.fU r.All (aL m.bC ((aV (fV m aH now) m.bA (gq aH r now) r.aK).aB)) ((aV (fV m aH now) m.bA (gq aH r now) r.aK).dw) ((aV (fV m aH now) m.bA (gq aH r now) r.aK).To) (now + r.dW)).length) Jr, .slice A5 (((bD aH now).bH ++ (jZ m aH r now)).length) c5]) kW Y (Y6.x s0)⟩, ⟨_, _, Y, Y, ⟨_, _, Y, Y, Y⟩⟩⟩ ?_)
   have vo : MO m r = true := by unfold MO; rw [hrb.1, hrb.2]; rfl
   have hrq : TQ m aH r now = true := Q8
   have hbq : uV m.bC (fV m aH now) m.bA (gq aH r now) r.aK = true := Zn hrb.2 hrq X5
   have Ou : ((⟨(bD aH now).bU, (kG ((iQ m aH r now).1) r.fU r.All (aL m.bC ((aV (fV m aH now) m.bA (gq aH r now) r.aK).aB)) ((aV (fV m aH now) m.bA (gq aH r now) r.aK).dw) ((aV (fV m aH now) m.bA (gq aH r now) r.aK).To) (now + r.dW)), ((bD aH now).bH ++ (jZ m aH r now))⟩ : ASoft) : ASoft) = (gU m aH r now) := by unfold gU rdL; rw [if_pos vo, if_pos hrq]; unfold zP; rw [if_pos hbq]
   have Lj : ((bD aH now).bU : List ABeat) = ((gU m aH r now).bU) := by rw [← Ou]
   have Ov : ((kG ((iQ m aH r now).1) r.fU r.All (aL m.bC ((aV (fV m aH now) m.bA (gq aH r now) r.aK).aB)) ((aV (fV m aH now) m.bA (gq aH r now) r.aK).dw) ((aV (fV m aH now) m.bA (gq aH r now) r.aK).To) (now + r.dW)) : List ALease) = ((gU m aH r now).bI) := by rw [← Ou]
   have Ll : (((bD aH now).bH ++ (jZ m aH r now)) : List AOrder) = ((gU m aH r now).bH) := by rw [← Ou]
   have Ox : ((mY ((iQ m aH r now).1) ((iQ m aH r now).2 ++ (jZ m aH r now)) r.fU r.All (aL m.bC ((aV (fV m aH now) m.bA (gq aH r now) r.aK).aB)) ((aV (fV m aH now) m.bA (gq aH r now) r.aK).dw) ((aV (fV m aH now) m.bA (gq aH r now) r.aK).To) (now + r.dW)) : List AOrder) = (jH m aH r now) := by unfold jH rdO; rw [if_pos vo, if_pos hrq]; unfold EX; rw [if_pos hbq]
   rw [Ox] at Y6
   have Tv : (((jZ m aH r now).map gY) : List iT) = (kN m aH r now) := by unfold kN; rw [if_pos vo]
   rw [Tv] at Y6
   exact ⟨jw, jy, Jq, Jr, A5, c5, OV, OW, um, c15, by first | (rw [Ox, Tv, Lj, Ov, Ll] <;> rfl) | (rw [Lj, Ov, Ll, Ox, Tv] <;> rfl), by rw [← Lj, ← Ov, ← Ll]; exact ((((((((((((((((((Y6.rm (.t (.t s15))).rm (.t s15)).rm s15).rm s13).rm s12).rm s11).rm s10).rm s9).rm s6).rm s5).rm s4).rm s1).rm s0).sel s3).sel s2).sel s3).sel s3).sel s4)⟩
  refine WP.skip (aA.norm ?_)
  refine He TN (fun _ K => (K.rm NM)) (fun l0 rk lJ wJ => lJ = (9, .slice IB (((iQ m aH r now).2 ++ (jZ m aH r now)).length) c14) :: (10, .slice um (((jZ m aH r now).map gY).length) c15) :: l0 ∧ Hp w S0 wJ [dG g4 31 [.slice jw (((bD aH now).bU).length) jy, .slice A4 (((iQ m aH r now).1).length) c4, .slice A5 (((bD aH now).bH ++ (jZ m aH r now)).length) c5], dG g10 53 [.int .i64 ((aL m.bC ((aV (fV m aH now) m.bA (gq aH r now) r.aK).aB)).ID), .int .i64 ((aL m.bC ((aV (fV m aH now) m.bA (gq aH r now) r.aK).aB)).ay), .int .u32 ((aL m.bC ((aV (fV m aH now) m.bA (gq aH r now) r.aK).aB)).Sum), .slice Dq (((aL m.bC ((aV (fV m aH now) m.bA (gq aH r now) r.aK).aB)).av).length) Dr], fM tInt Dq Dr ((aL m.bC ((aV (fV m aH now) m.bA (gq aH r now) r.aK).aB)).av), dG Cb 50 [.int .i64 ((aV (fV m aH now) m.bA (gq aH r now) r.aK).Kind), .int .i64 ((aV (fV m aH now) m.bA (gq aH r now) r.aK).aB), .int .i64 ((aV (fV m aH now) m.bA (gq aH r now) r.aK).ay), .int .u32 ((aV (fV m aH now) m.bA (gq aH r now) r.aK).Sum), .int .i64 ((aV (fV m aH now) m.bA (gq aH r now) r.aK).dw), .int .i64 ((aV (fV m aH now) m.bA (gq aH r now) r.aK).To), .int .i64 ((aV (fV m aH now) m.bA (gq aH r now) r.aK).dQ)], fM tOrder A5 c5 ((bD aH now).bH ++ (jZ m aH r now)), aQ tOrder 50 IB c14 ((iQ m aH r now).2 ++ (jZ m aH r now)), aQ nI 60 um c15 ((jZ m aH r now).map gY), dG iZ 87 [.slice ku m.bA.length kC, .slice kD m.bC.length kE, .slice lH m.dS.length lI, .slice jw (((bD aH now).bU).length) jy, .slice A4 (((iQ m aH r now).1).length) c4, .slice A5 (((bD aH now).bH ++ (jZ m aH r now)).length) c5, .int .i64 r.eG, .int .i64 r.fU, .int .i64 r.All, .int .i64 r.gy, .int .i64 r.dW, .int .i64 r.aK, .int .i64 now, .slice vL ((gq aH r now).length) vM, .slice IB (((iQ m aH r now).2 ++ (jZ m aH r now)).length) c14, .slice um (((jZ m aH r now).map gY).length) c15], fM tLease A4 c4 ((iQ m aH r now).1), fM tChunk kD kE m.bC, fM tNode ku kC m.bA, fM tChunk TR TS (fV m aH now), fM tInt vL vM (gq aH r now), aQ fP 90 TT TU (qy m aH r now), fM tBeat jw jy ((bD aH now).bU), dG g3 33 [.int .i64 r.eG, .int .i64 r.fU, .int .i64 r.All, .int .i64 r.gy, .int .i64 r.dW, .int .i64 r.aK], dG g2 31 [.slice mE aH.bU.length mF, .slice mG aH.bI.length mH, .slice mI aH.bH.length mK], dG g1 26 [.slice ku m.bA.length kC, .slice kD m.bC.length kE, .slice lH m.dS.length lI]]) (fun hns H23 => ?_) ?_
  ·
   have k20 := (H23.rm NM)
   refine Tm 0 1 hns Y Y k20 <| Tn 1 3 hns Y (fun _ _ => Ev.nilCheck Y) k20 <| Tn 2 7 hns Y (fun _ _ => Ev.field (q := ⟨iZ, 3, none⟩) jN Y Y) k20 ?_
   refine Tn 3 15 hns Y (fun _ hK => Ev.oZ (cs' := [.slice jw (((bD aH now).bU).length) jy, .slice A4 (((iQ m aH r now).1).length) c4, .slice A5 (((bD aH now).bH ++ (jZ m aH r now)).length) c5]) kW Y Y (hK.x s6) Y) k20 ?_
   refine Tm 4 31 hns Y Y k20 <| Tn 5 63 hns Y (fun _ _ => Ev.nilCheck Y) k20 <| Tn 6 127 hns Y (fun _ _ => Ev.field (q := ⟨iZ, 14, none⟩) vF Y Y) k20 ?_
   refine Tn 7 255 hns Y (fun _ hK => Ev.aj gV Y (hK.x s6) Y) k20 <| Tm 8 511 hns Y Y k20 <| Tn 9 1023 hns Y (fun _ _ => Ev.nilCheck Y) k20 ?_
   refine Tn 10 2047 hns Y (fun _ _ => Ev.field (q := ⟨iZ, 15, none⟩) Ad Y Y) k20 <| Tn 11 4095 hns Y (fun _ hK => Ev.aj zR Y (hK.x s6) Y) k20 ?_
   refine O1 12 Y ?_
   refine iW Y Y Y rT H23 NM Y Y fun w42 SL => ?_
   have k21 := (SL.rm s0)
   refine WH.next k21 <| Ta 13 16383 hns Y Y k21 <| Ta 14 32767 hns Y Y k21 ?_
   exact Dn ⟨Y, SL⟩ Y
  rintro _ w43 ⟨rfl, Yc⟩
  refine WP.ret (aA.oG Y ⟨_, _, Y, ⟨_, Y, eH (cs := [.slice jw (((bD aH now).bU).length) jy, .slice A4 (((iQ m aH r now).1).length) c4, .slice A5 (((bD aH now).bH ++ (jZ m aH r now)).length) c5]) kW Y (Yc.x s0)⟩, ⟨_, _, Y, Y, ⟨_, _, Y, Y, Y⟩⟩⟩ ?_)
  have vo : MO m r = true := by unfold MO; rw [hrb.1, hrb.2]; rfl
  have hrq : TQ m aH r now = true := Q8
  have hbq : uV m.bC (fV m aH now) m.bA (gq aH r now) r.aK = false := by unfold uV; rw [show moveB (fV m aH now) m.bA (gq aH r now) r.aK = false from X5]; rfl
  have Xr : ((⟨(bD aH now).bU, (iQ m aH r now).1, ((bD aH now).bH ++ (jZ m aH r now))⟩ : ASoft) : ASoft) = (gU m aH r now) := by unfold gU rdL; rw [if_pos vo, if_pos hrq]; unfold zP; rw [if_neg (by rw [hbq]; decide)]
  have Tz : ((bD aH now).bU : List ABeat) = ((gU m aH r now).bU) := by rw [← Xr]
  have Xt : ((iQ m aH r now).1 : List ALease) = ((gU m aH r now).bI) := by rw [← Xr]
  have Fz : (((bD aH now).bH ++ (jZ m aH r now)) : List AOrder) = ((gU m aH r now).bH) := by rw [← Xr]
  have Xu : (((iQ m aH r now).2 ++ (jZ m aH r now)) : List AOrder) = (jH m aH r now) := by unfold jH rdO; rw [if_pos vo, if_pos hrq]; unfold EX; rw [if_neg (by rw [hbq]; decide)]
  rw [Xu] at Yc
  have Xv : (((jZ m aH r now).map gY) : List iT) = (kN m aH r now) := by unfold kN; rw [if_pos vo]
  rw [Xv] at Yc
  exact ⟨jw, jy, A4, c4, A5, c5, IB, c14, um, c15, by first | (rw [Xu, Xv, Tz, Xt, Fz] <;> rfl) | (rw [Tz, Xt, Fz, Xu, Xv] <;> rfl), by rw [← Tz, ← Xt, ← Fz]; exact ((((((((((((((((((Yc.rm (.t (.t s15))).rm (.t s15)).rm s15).rm s13).rm s12).rm s11).rm s10).rm s9).rm s7).rm s3).rm s2).rm s1).rm s0).sel s2).sel s2).sel s2).sel s3).sel s4)⟩
 refine WP.skip (aA.norm ?_)
 refine He vG (fun _ K => (K.rm s11)) (fun l0 rk lJ wJ => lJ = (9, .slice IB (((iQ m aH r now).2 ++ (jZ m aH r now)).length) c14) :: (10, .slice um (((jZ m aH r now).map gY).length) c15) :: l0 ∧ Hp w S0 wJ [dG g4 31 [.slice jw (((bD aH now).bU).length) jy, .slice A4 (((iQ m aH r now).1).length) c4, .slice A5 (((bD aH now).bH ++ (jZ m aH r now)).length) c5], fM tOrder A5 c5 ((bD aH now).bH ++ (jZ m aH r now)), aQ tOrder 50 IB c14 ((iQ m aH r now).2 ++ (jZ m aH r now)), aQ nI 60 um c15 ((jZ m aH r now).map gY), dG iZ 87 [.slice ku m.bA.length kC, .slice kD m.bC.length kE, .slice lH m.dS.length lI, .slice jw (((bD aH now).bU).length) jy, .slice A4 (((iQ m aH r now).1).length) c4, .slice A5 (((bD aH now).bH ++ (jZ m aH r now)).length) c5, .int .i64 r.eG, .int .i64 r.fU, .int .i64 r.All, .int .i64 r.gy, .int .i64 r.dW, .int .i64 r.aK, .int .i64 now, .slice vL ((gq aH r now).length) vM, .slice IB (((iQ m aH r now).2 ++ (jZ m aH r now)).length) c14, .slice um (((jZ m aH r now).map gY).length) c15], fM tLease A4 c4 ((iQ m aH r now).1), fM tChunk kD kE m.bC, fM tNode ku kC m.bA, fM tChunk TR TS (fV m aH now), fM tInt vL vM (gq aH r now), aQ fP 90 TT TU (qy m aH r now), fM tBeat jw jy ((bD aH now).bU), dG g3 33 [.int .i64 r.eG, .int .i64 r.fU, .int .i64 r.All, .int .i64 r.gy, .int .i64 r.dW, .int .i64 r.aK], dG g2 31 [.slice mE aH.bU.length mF, .slice mG aH.bI.length mH, .slice mI aH.bH.length mK], dG g1 26 [.slice ku m.bA.length kC, .slice kD m.bC.length kE, .slice lH m.dS.length lI]]) (fun hns H24 => ?_) ?_
 ·
  have k22 := (H24.rm s11)
  refine Tm 0 1 hns Y Y k22 <| Tn 1 3 hns Y (fun _ _ => Ev.nilCheck Y) k22 <| Tn 2 7 hns Y (fun _ _ => Ev.field (q := ⟨iZ, 3, none⟩) jN Y Y) k22 ?_
  refine Tn 3 15 hns Y (fun _ hK => Ev.oZ (cs' := [.slice jw (((bD aH now).bU).length) jy, .slice A4 (((iQ m aH r now).1).length) c4, .slice A5 (((bD aH now).bH ++ (jZ m aH r now)).length) c5]) kW Y Y (hK.x s3) Y) k22 ?_
  refine Tm 4 31 hns Y Y k22 <| Tn 5 63 hns Y (fun _ _ => Ev.nilCheck Y) k22 <| Tn 6 127 hns Y (fun _ _ => Ev.field (q := ⟨iZ, 14, none⟩) vF Y Y) k22 ?_
  refine Tn 7 255 hns Y (fun _ hK => Ev.aj gV Y (hK.x s3) Y) k22 <| Tm 8 511 hns Y Y k22 <| Tn 9 1023 hns Y (fun _ _ => Ev.nilCheck Y) k22 ?_
  refine Tn 10 2047 hns Y (fun _ _ => Ev.field (q := ⟨iZ, 15, none⟩) Ad Y Y) k22 <| Tn 11 4095 hns Y (fun _ hK => Ev.aj zR Y (hK.x s3) Y) k22 ?_
  refine O1 12 Y ?_
  refine iW Y Y Y rT H24 s11 Y Y fun w44 NI => ?_
  have k23 := (NI.rm s0)
  refine WH.next k23 <| Ta 13 16383 hns Y Y k23 <| Ta 14 32767 hns Y Y k23 ?_
  exact Dn ⟨Y, NI⟩ Y
 rintro _ w45 ⟨rfl, Dj⟩
 refine WP.ret (aA.oG Y ⟨_, _, Y, ⟨_, Y, eH (cs := [.slice jw (((bD aH now).bU).length) jy, .slice A4 (((iQ m aH r now).1).length) c4, .slice A5 (((bD aH now).bH ++ (jZ m aH r now)).length) c5]) kW Y (Dj.x s0)⟩, ⟨_, _, Y, Y, ⟨_, _, Y, Y, Y⟩⟩⟩ ?_)
 have vo : MO m r = true := by unfold MO; rw [hrb.1, hrb.2]; rfl
 have hrq : ¬ TQ m aH r now = true := by rw [show TQ m aH r now = false from Q8]; decide
 have Xw : ((⟨(bD aH now).bU, (iQ m aH r now).1, ((bD aH now).bH ++ (jZ m aH r now))⟩ : ASoft) : ASoft) = (gU m aH r now) := by unfold gU rdL; rw [if_pos vo, if_neg hrq]
 have Xx : ((bD aH now).bU : List ABeat) = ((gU m aH r now).bU) := by rw [← Xw]
 have Xy : ((iQ m aH r now).1 : List ALease) = ((gU m aH r now).bI) := by rw [← Xw]
 have Xz : (((bD aH now).bH ++ (jZ m aH r now)) : List AOrder) = ((gU m aH r now).bH) := by rw [← Xw]
 have XA : (((iQ m aH r now).2 ++ (jZ m aH r now)) : List AOrder) = (jH m aH r now) := by unfold jH rdO; rw [if_pos vo, if_neg hrq]
 rw [XA] at Dj
 have XB : (((jZ m aH r now).map gY) : List iT) = (kN m aH r now) := by unfold kN; rw [if_pos vo]
 rw [XB] at Dj
 exact ⟨jw, jy, A4, c4, A5, c5, IB, c14, um, c15, by first | (rw [XA, XB, Xx, Xy, Xz] <;> rfl) | (rw [Xx, Xy, Xz, XA, XB] <;> rfl), by rw [← Xx, ← Xy, ← Xz]; exact (((((((((((((((Dj.rm NM).rm s13).rm s12).rm s10).rm s9).rm s8).rm s7).rm s6).rm s4).rm s0).sel s2).sel s2).sel s2).sel s3).sel s4)⟩
end Go.Proofs.YtjcklpooaaaglaaGreat
set_option maxRecDepth 4000
set_option linter.all false
namespace Go.Proofs.YtjcklpooaaaglaaGreat
open Go.RowKit
theorem Hp.c5 {b w w' : World} {S : Nat → Prop} {F : List jP} {r1 r2 r3 r4 r5 : jP} (H : Hp b S w F) (h : Hp w (Rd b S F w) w' [r1, r2, r3, r4, r5]) : Hp b S w' (r1 :: r2 :: r3 :: r4 :: r5 :: F) := H.lift h
theorem agV : aM Tryz.prog 14 := fun _ _ => by kernel_rfl
theorem aaQ : aM Tryz.prog 15 := fun _ _ => by kernel_rfl
theorem agW : aM Tryz.prog 17 := fun _ _ => by kernel_rfl
theorem agX : aM Tryz.prog 20 := fun _ _ => by kernel_rfl
set_option maxHeartbeats 4000000 in
theorem crounds_true {S0 : Nat → Prop} (w : World) (m : AMeta) {ku : an3} {kC : Nat} (Gi : Sl tNode S0 w ku kC m.bA) {kD : an3} {kE : Nat} (yT : Sl tChunk S0 w kD kE m.bC) {lH : an3} {lI : Nat} (SN : Sl tSession S0 w lH lI m.dS) (s : ASoft) {qN : an3} {qO : Nat} (Bv : Sl tBeat S0 w qN qO s.bU) {uQ : an3} {uR : Nat} (Bw : Sl tLease S0 w uQ uR s.bI) {uS : an3} {uT : Nat} (vT : Sl tOrder S0 w uS uT s.bH) (r : ARules) (now : Int) :
    bY Tryz.prog 3 #[.agg #[.slice ku m.bA.length kC, .slice kD m.bC.length kE, .slice lH m.dS.length lI], .agg #[.slice qN s.bU.length qO, .slice uQ s.bI.length uR, .slice uS s.bH.length uT], .agg #[.int .i64 r.eG, .int .i64 r.fU, .int .i64 r.All, .int .i64 r.gy, .int .i64 r.dW, .int .i64 r.aK], .int .i64 now] w fun v w' => v = .bool true ∧ Hp w S0 w' [] := by
 refine WP.enter Tryz.func3 Y Tryz.ntmps3 Y ?_
 have H0 := Hp.init w S0
 refine rg ?_
 refine bx Y Y H0 fun g1 w1 K1 => ?_
 refine bx Y Y K1 fun g2 w2 K2 => ?_
 refine bx Y Y K2 fun g3 w3 K3 => ?_
 refine aR Y <| dn <| rg ?_
 refine C0 K3 Y Y Y afT (O4 (S0 := Any) _ ) fun w4 K4 => ?_
 refine aR Y <| dn <| rg <| ev (Ev.bX MR Y Y (K4.x s2)) ?_
 refine C0 K4 Y Y Y afU (WU _ m (K4.a Gi).any (K4.a yT).any (K4.a SN).any) fun w5 K5 => ?_
 refine aR Y <| dn <| rg <| ev (Ev.bX kW Y Y (K5.x s1)) ?_
 refine C0 K5 Y Y Y afV (WV _ s (K5.a Bv).any (K5.a Bw).any (K5.a vT).any) fun w6 K6 => ?_
 refine aR Y <| dn <| WP.seq <| rg <| mv Y <| ev (Ev.not Y) <| mv Y <| WL.bF Y (Ev.move Y) Y <| WL.bF Y (Ev.not Y) Y <| ev (Ev.bn Y Y) <| mv Y ?_
 refine WL.dR 3 37 ((!(uf m)) || (!(vN s))) ?_ ?_
 ·
  cases adu : (!(uf m)) with
  | true =>
   refine WL.pass Y Y Y <| WL.pass Y Y Y <| ev (Ev.bq Y Y) ?_
   exact WL.bM Y
  | false =>
   refine WL.bF Y (Ev.move Y) Y <| WL.bF Y (Ev.not Y) Y <| ev (Ev.bn Y Y) ?_
   exact WL.bM Y
 refine mv Y ?_
 refine WL.dR 3 41 (((!(uf m)) || (!(vN s))) || (decide (now < 0))) ?_ ?_
 ·
  cases VZ : ((!(uf m)) || (!(vN s))) with
  | true =>
   refine WL.pass Y Y Y <| WL.pass Y Y Y <| ev (Ev.bq Y Y) ?_
   exact WL.bM Y
  | false =>
   have Qw := VZ
   try simp only [an4, an5, an6, an7, an8, an9, aoa, aob] at Qw
   refine WL.bF Y (Ev.move Y) Y <| WL.bF Y (Ev.lss Y Y) Y <| ev (Ev.bn Y Y) ?_
   exact WL.bM Y
 refine mv Y ?_
 refine WL.dR 3 45 ((((!(uf m)) || (!(vN s))) || (decide (now < 0))) || (decide (1099511627776 < now))) ?_ ?_
 ·
  cases XK : (((!(uf m)) || (!(vN s))) || (decide (now < 0))) with
  | true =>
   refine WL.pass Y Y Y <| WL.pass Y Y Y <| ev (Ev.bq Y Y) ?_
   exact WL.bM Y
  | false =>
   have QS := XK
   try simp only [an4, an5, an6, an7, an8, an9, aoa, aob] at QS
   refine WL.bF Y (Ev.move Y) Y <| WL.bF Y (Ev.gtr Y Y) Y <| ev (Ev.bn Y Y) ?_
   exact WL.bM Y
 refine dn ?_
 refine WP.aG Y (fun qg => ?_) (fun qg => ?_)
 ·
  refine rg <| mv Y <| aR Y <| dn ?_
  refine WP.ret (aA.aP (aA.aD Y Y Y ?_))
  exact ⟨Y, K6.z⟩
 have hfw : uf m = true ∧ vN s = true ∧ 0 ≤ now ∧ now ≤ 1099511627776 := by simp only [Bool.or_eq_false_iff, Bool.not_eq_false', decide_eq_false_iff_not] at qg; exact ⟨qg.1.1.1, qg.1.1.2, by omega, by omega⟩
 have hfm := WO hfw.1
 have hfs := WS hfw.2.1
 have hfh : ∀ x ∈ m.bC, x.av.length ≤ 100000 := fun x hx => by have := hfm.2.2 x hx; omega
 refine WP.skip (aA.norm ?_)
 refine rg <| ev (Ev.bX MR Y Y (K6.x s2)) <| ev (Ev.bX kW Y Y (K6.x s1)) <| ev (Ev.bX zT Y Y (K6.x s0)) <| mv Y <| WL.call Y Y Y WT (E8 _ m (K6.a Gi).any (K6.a yT).any (K6.a SN).any s (K6.a Bv).any (K6.a Bw).any (K6.a vT).any r now (by omega) (by omega) (by omega) (by omega) (by omega) (by omega)) Y ?_
 rintro _ w7 ⟨aj8, aj9, akb, akc, akd, ake, akf, akg, akh, aki, rfl, h7⟩
 have K7 := K6.f5 h7
 have aga := (K7.o s0).aN
 have alG := (K7.o s1).aN
 have alH := (K7.o s2).aN
 have alI := (K7.o s3).aN
 have alJ := (K7.o s4).aN
 refine mv Y <| xt Y Y <| xt Y Y <| xt Y Y ?_
 refine al rR Y K7 fun g4 w8 K8 => ?_
 refine iW Y Y Y rT K8 s0 Y Y fun w9 K9 => ?_
 refine aR Y <| aR Y <| dn <| rg <| ev (Ev.bX MR Y Y (K9.x s8)) <| ev (Ev.bX kW Y Y (K9.x s7)) <| ev (Ev.bX zT Y Y (K9.x s6)) <| mv Y <| WL.call Y Y Y agV (ND _ m (K9.a Gi) (K9.a yT) (K9.a SN) s (K9.a Bv) (K9.a Bw) (K9.a vT) r now (by omega) (by omega) (by omega) (by omega) (by omega) (by omega)) Y ?_
 rintro _ J8 ⟨ahv, ahw, ahx, ahy, ahz, ahA, agY, agZ, ag0, ag1, rfl, h10⟩
 have K10 := K9.c5 h10
 have acS := (K10.s s0).aN
 have akj := (K10.s s1).aN
 have akk := (K10.s s2).aN
 have akl := (K10.o s3).aN
 have akm := (K10.o s4).aN
 refine mv Y <| xt Y Y <| xt Y Y <| xt Y Y ?_
 refine al rR Y K10 fun g5 Om qb => ?_
 refine iW Y Y Y rT qb s0 Y Y fun Le oH => ?_
 refine aR Y <| aR Y <| dn <| WP.keep' [(3, .int .i64 now), (4, .pointer (some ⟨g1, 0, none⟩)), (5, .pointer (some ⟨g2, 0, none⟩)), (6, .pointer (some ⟨g3, 0, none⟩)), (12, .pointer (some ⟨g4, 0, none⟩)), (13, .slice akf ((jH m s r now).length) akg), (14, .slice akh ((kN m s r now).length) aki), (15, .pointer (some ⟨g5, 0, none⟩)), (16, .slice agY ((jH m s r now).length) agZ), (17, .slice ag0 ((kN m s r now).length) ag1)] Y ?_
 refine rg <| ev (Ev.bX kW Y Y (oH.x s6)) <| ev (Ev.bX kW Y Y (oH.x s0)) ?_
 refine C0 oH Y Y Y aaQ (FI _ (gU m s r now) (oH.o s7) (oH.o s8) (oH.o s9) (gU m s r now) (oH.s s1).any (oH.s s2).any (oH.s s3).any) fun RY sP => ?_
 refine aR Y <| dn <| rg <| mv Y <| mv Y ?_
 refine C0 sP Y Y Y aaH (Ab _ (sP.o s10) (sP.o s4)) fun RZ nO => ?_
 refine aR Y <| dn <| rg <| mv Y <| mv Y ?_
 refine C0 nO Y Y Y agW (PE _ (nO.o s11) (nO.o s5)) fun TM vW => ?_
 refine aR Y <| dn ?_
 refine He vW (fun _ K => K) (fun l0 rk lJ wJ => lJ = (21, .bool (decide ((bD s now) = (bD s now)))) :: l0 ∧ Hp w S0 wJ rk) (fun hns H1 => ?_) ?_
 ·
  refine Tn 0 1 hns Y (fun _ hK => Ev.bX kW Y Y (hK.x s13)) H1 <| Tm 1 3 hns Y Y H1 <| Tn 3 11 hns Y (fun _ hK => Ev.bX kW Y Y (hK.x s13)) H1 ?_
  refine Tm 4 27 hns Y Y H1 <| O1 2 Y <| WL.call Y Y Y aar (MF _ s (H1.a Bv).any (H1.a Bw).any (H1.a vT).any now (by omega) (by omega) (by omega)) Y ?_
  rintro _ w16 ⟨uZ, u6, ahB, ahC, ahD, ahE, rfl, h16⟩
  have tQ := H1.f3 h16
  have JA := (tQ.o s0).aN
  have akn := (tQ.o s1).aN
  have ako := (tQ.o s2).aN
  have k1 := (((tQ.rm s2).rm s1).rm s0)
  refine WH.next k1 <| O1 5 Y <| WL.call Y Y Y aaN (FJ _ s (tQ.a Bv) (tQ.a Bw) (tQ.a vT) now (by omega) (by omega)) Y ?_
  rintro _ Vh ⟨ahF, ahG, ahH, ahI, ahJ, ahK, rfl, h17⟩
  have qp := tQ.c3 h17
  have acC := (qp.s s0).aN
  have akp := (qp.s s1).aN
  have akq := (qp.s s2).aN
  have k2 := ((((((qp.rm s5).rm s4).rm s3).rm s2).rm s1).rm s0)
  refine WH.next k2 <| O1 6 Y ?_
  refine C0 qp Y Y Y aaQ (FI _ (bD s now) (qp.o s3) (qp.o s4) (qp.o s5) (bD s now) (qp.s s0).any (qp.s s1).any (qp.s s2).any) fun Yb vX => ?_
  have k3 := ((((((vX.rm s5).rm s4).rm s3).rm s2).rm s1).rm s0)
  refine WH.next k3 <| Ta 7 255 hns Y Y k3 ?_
  exact Dn ⟨Y, ((((((vX.rm s5).rm s4).rm s3).rm s2).rm s1).rm s0)⟩ Y
 rintro _ ZJ ⟨rfl, zy⟩
 refine He zy (fun _ K => K) (fun l0 rk lJ wJ => lJ = (22, .bool (decide ((iN m.bC s.bH) = (iN m.bC s.bH)))) :: l0 ∧ Hp w S0 wJ rk) (fun hns H2 => ?_) ?_
 ·
  refine Tn 0 1 hns Y (fun _ _ => Ev.field (q := ⟨g1, 1, none⟩) mg Y Y) H2 <| Tn 1 3 hns Y (fun _ hK => Ev.aj nM Y (hK.x NM) Y) H2 ?_
  refine Tn 2 7 hns Y (fun _ _ => Ev.field (q := ⟨g2, 2, none⟩) jc Y Y) H2 <| Tn 3 15 hns Y (fun _ hK => Ev.aj gV Y (hK.x s13) Y) H2 ?_
  refine Tn 5 47 hns Y (fun _ _ => Ev.field (q := ⟨g1, 1, none⟩) mg Y Y) H2 <| Tn 6 111 hns Y (fun _ hK => Ev.aj nM Y (hK.x NM) Y) H2 ?_
  refine Tn 7 239 hns Y (fun _ _ => Ev.field (q := ⟨g2, 2, none⟩) jc Y Y) H2 <| Tn 8 495 hns Y (fun _ hK => Ev.aj gV Y (hK.x s13) Y) H2 ?_
  refine O1 4 Y <| WL.call Y Y Y aas (MG _ (H2.a yT) (H2.a vT).any (by omega) (by omega) hfh) Y ?_
  rintro _ ZK ⟨alK, alL, rfl, h20⟩
  have vG := H2.c1 h20
  have akr := (vG.o s0).aN
  have k4 := (vG.rm s0)
  refine WH.next k4 <| O1 9 Y <| WL.call Y Y Y aaO (FK _ (vG.a yT) (vG.a vT) (by omega) (by omega) hfh) Y ?_
  rintro _ YR ⟨aaD, aaE, rfl, h21⟩
  have sJ := vG.c1 h21
  have adn := (sJ.o s0).aN
  have k5 := ((sJ.rm s1).rm s0)
  refine WH.next k5 <| O1 10 Y ?_
  refine C0 sJ Y Y Y agX (O6 _ (sJ.o s1) (sJ.o s0)) fun ZL yO => ?_
  have k6 := ((yO.rm s1).rm s0)
  refine WH.next k6 <| Ta 11 4095 hns Y Y k6 ?_
  exact Dn ⟨Y, ((yO.rm s1).rm s0)⟩ Y
 rintro _ w23 ⟨rfl, Ag⟩
 refine WP.draw (by kernel_rfl) (by kernel_rfl) <| WQ.ev (Ev.move Y) Y <| WQ.ev (Ev.move Y) Y ?_
 refine WQ.dR 2 95 ((decide ((gU m s r now) = (gU m s r now))) && (decide ((jH m s r now) = (jH m s r now)))) ?_ ?_
 ·
  cases acX : decide ((gU m s r now) = (gU m s r now)) with
  | true =>
   have aav := of_decide_eq_true acX
   refine WQ.bF Y (Ev.move Y) Y <| WQ.ev (Ev.bq Y Y) Y ?_
   exact WQ.bM Y
  | false =>
   refine WQ.pass Y Y Y <| WQ.ev (Ev.bn Y Y) Y ?_
   exact WQ.bM Y
 refine WQ.ev (Ev.move Y) Y ?_
 refine WQ.dR 2 98 (((decide ((gU m s r now) = (gU m s r now))) && (decide ((jH m s r now) = (jH m s r now)))) && (decide ((kN m s r now) = (kN m s r now)))) ?_ ?_
 ·
  cases aks : ((decide ((gU m s r now) = (gU m s r now))) && (decide ((jH m s r now) = (jH m s r now)))) with
  | true =>
   have ag2 := aks
   try simp only [Bool.and_eq_true, Bool.and_eq_false_imp, decide_eq_true_eq, decide_eq_false_iff_not] at ag2
   refine WQ.bF Y (Ev.move Y) Y <| WQ.ev (Ev.bq Y Y) Y ?_
   exact WQ.bM Y
  | false =>
   refine WQ.pass Y Y Y <| WQ.ev (Ev.bn Y Y) Y ?_
   exact WQ.bM Y
 refine WQ.ev (Ev.move Y) Y ?_
 refine WQ.dR 2 101 ((((decide ((gU m s r now) = (gU m s r now))) && (decide ((jH m s r now) = (jH m s r now)))) && (decide ((kN m s r now) = (kN m s r now)))) && (decide ((bD s now) = (bD s now)))) ?_ ?_
 ·
  cases akt : (((decide ((gU m s r now) = (gU m s r now))) && (decide ((jH m s r now) = (jH m s r now)))) && (decide ((kN m s r now) = (kN m s r now)))) with
  | true =>
   have ag3 := akt
   try simp only [Bool.and_eq_true, Bool.and_eq_false_imp, decide_eq_true_eq, decide_eq_false_iff_not] at ag3
   refine WQ.bF Y (Ev.move Y) Y <| WQ.ev (Ev.bq Y Y) Y ?_
   exact WQ.bM Y
  | false =>
   refine WQ.pass Y Y Y <| WQ.ev (Ev.bn Y Y) Y ?_
   exact WQ.bM Y
 refine WQ.ev (Ev.move Y) Y ?_
 refine WQ.dR 2 104 (((((decide ((gU m s r now) = (gU m s r now))) && (decide ((jH m s r now) = (jH m s r now)))) && (decide ((kN m s r now) = (kN m s r now)))) && (decide ((bD s now) = (bD s now)))) && (decide ((iN m.bC s.bH) = (iN m.bC s.bH)))) ?_ ?_
 ·
  cases ag4 : ((((decide ((gU m s r now) = (gU m s r now))) && (decide ((jH m s r now) = (jH m s r now)))) && (decide ((kN m s r now) = (kN m s r now)))) && (decide ((bD s now) = (bD s now)))) with
  | true =>
   have adJ := ag4
   try simp only [Bool.and_eq_true, Bool.and_eq_false_imp, decide_eq_true_eq, decide_eq_false_iff_not] at adJ
   refine WQ.bF Y (Ev.move Y) Y <| WQ.ev (Ev.bq Y Y) Y ?_
   exact WQ.bM Y
  | false =>
   refine WQ.pass Y Y Y <| WQ.ev (Ev.bn Y Y) Y ?_
   exact WQ.bM Y
 refine WQ.ev (Ev.move Y) Y ?_
 refine WQ.dR 6 111 ((((((decide ((gU m s r now) = (gU m s r now))) && (decide ((jH m s r now) = (jH m s r now)))) && (decide ((kN m s r now) = (kN m s r now)))) && (decide ((bD s now) = (bD s now)))) && (decide ((iN m.bC s.bH) = (iN m.bC s.bH)))) && ((jD r) == (jD r))) ?_ ?_
 ·
  cases ag5 : (((((decide ((gU m s r now) = (gU m s r now))) && (decide ((jH m s r now) = (jH m s r now)))) && (decide ((kN m s r now) = (kN m s r now)))) && (decide ((bD s now) = (bD s now)))) && (decide ((iN m.bC s.bH) = (iN m.bC s.bH)))) with
  | true =>
   have adK := ag5
   try simp only [Bool.and_eq_true, Bool.and_eq_false_imp, decide_eq_true_eq, decide_eq_false_iff_not] at adK
   refine WQ.bF Y (Ev.bX zT Y Y (Ag.x s12)) Y <| WQ.jd Y (v := .bool (jD r)) Y Y Y aaq (fun wq eq => (Qy (S0 := Any) wq r).mono (by rintro _ _ ⟨rfl, hq2⟩; exact ⟨rfl, hq2.ext⟩)) rfl ?_
   refine WQ.bF Y (Ev.bX zT Y Y (Ag.x s12)) Y <| WQ.jd Y (v := .bool (jD r)) Y Y Y aaM (fun wq eq => (Iy (S0 := Any) wq r).mono (by rintro _ _ ⟨rfl, hq2⟩; exact ⟨rfl, hq2.ext⟩)) rfl ?_
   refine WQ.bF Y (Ev.eqb Tryz.underlying4 Y Y) Y <| WQ.ev (Ev.bq Y Y) Y ?_
   exact WQ.bM Y
  | false =>
   refine WQ.pass Y Y Y <| WQ.pass Y Y Y <| WQ.pass Y Y Y <| WQ.pass Y Y Y <| WQ.pass Y Y Y <| WQ.ev (Ev.bn Y Y) Y ?_
   exact WQ.bM Y
 refine WQ.ev (Ev.assign Y) Y ?_
 refine WQ.done fun w24 e24 => ?_
 have yt := Ag.grow e24
 refine WP.ret (aA.aD Y Y Y ?_)
 have hq1 : (((((((decide ((gU m s r now) = (gU m s r now))) && (decide ((jH m s r now) = (jH m s r now)))) && (decide ((kN m s r now) = (kN m s r now)))) && (decide ((bD s now) = (bD s now)))) && (decide ((iN m.bC s.bH) = (iN m.bC s.bH)))) && ((jD r) == (jD r))) : Bool) = true := by simp
 exact ⟨by rw [hq1] <;> rfl, yt.z⟩
end Go.Proofs.YtjcklpooaaaglaaGreat
