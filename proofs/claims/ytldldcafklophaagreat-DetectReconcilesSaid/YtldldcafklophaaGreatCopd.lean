/- Contracts of functions: what each call hands back, and that it leaves all that was there as it was. -/
import Derived.Test.YtldldcafklophaaGreatLaw14
set_option maxRecDepth 4000
set_option linter.all false
namespace Go.Proofs.YtldldcafklophaaGreat
open Go.RowKit

theorem sz_24 : Size Tryz.prog 24 1 := fun _ => by kernel_rfl
set_option maxHeartbeats 1000000 in
theorem copied_ok {S0 : Nat → Prop} (w : World) (m : AMeta) {B0_m : Option Addr} {d0_m : Nat} (h0_m : Sl tNode S0 w B0_m d0_m m.Nodes) {B1_m : Option Addr} {d1_m : Nat} (h1_m : Sl tChunk S0 w B1_m d1_m m.Chunks) {B2_m : Option Addr} {d2_m : Nat} (h2_m : Sl tSession S0 w B2_m d2_m m.Sessions) (hn : m.Nodes.length ≤ 100000) (hc : m.Chunks.length ≤ 100000) (hh : ∀ x ∈ m.Chunks, x.Holders.length ≤ 100000) (hs : m.Sessions.length ≤ 100000) :
    Rets Tryz.prog 42 #[.agg #[.slice B0_m m.Nodes.length d0_m, .slice B1_m m.Chunks.length d1_m, .slice B2_m m.Sessions.length d2_m]] w fun v w' => ∃ (B0_0 : Option Addr) (d0_0 : Nat) (B0_1 : Option Addr) (d0_1 : Nat) (B0_2 : Option Addr) (d0_2 : Nat), v = .agg #[.slice B0_0 m.Nodes.length d0_0, .slice B0_1 m.Chunks.length d0_1, .slice B0_2 m.Sessions.length d0_2] ∧ Hp w S0 w' [rSl tNode B0_0 d0_0 m.Nodes, rSl tChunk B0_1 d0_1 m.Chunks, rSl tSession B0_2 d0_2 m.Sessions] := by
 refine WP.enter Tryz.func42 rfl Tryz.ntmps42 rfl ?_
 have H0 := Hp.init w S0
 refine rg ?_
 refine bx (cs := [.slice B0_m m.Nodes.length d0_m, .slice B1_m m.Chunks.length d1_m, .slice B2_m m.Sessions.length d2_m]) rfl rfl H0 fun g1 w1 K1 => ?_
 refine al (cs := [.slice none 0 0, .slice none 0 0, .slice none 0 0]) zero_26 rfl K1 fun g2 w2 K2 => ?_
 refine dn ?_
 refine WP.held (fun wS => Hp w S0 wS [rBx g2 26 [.slice none 0 0, .slice none 0 0, .slice none 0 0]]) (fun lJ wJ => ∃ (Aj1 : Option Addr) (cj1 : Nat) (Aj2 : Option Addr) (cj2 : Nat) (Aj3 : Option Addr) (cj3 : Nat), lJ = [(1, .pointer (some ⟨g1, 0, none⟩)), (2, .pointer (some ⟨g2, 0, none⟩))] ∧ Hp w S0 wJ [rBx g1 26 [.slice Aj3 m.Nodes.length cj3, .slice Aj2 m.Chunks.length cj2, .slice Aj1 m.Sessions.length cj1], rOwn tSession 84 Aj1 cj1 m.Sessions, rOwn tChunk 40 Aj2 cj2 m.Chunks, rOwn tNode 31 Aj3 cj3 m.Nodes, rBx g2 26 [.slice none 0 0, .slice none 0 0, .slice none 0 0]]) (by kernel_rfl) ?_ ?_
 ·
  have H1 := K2.grow (Ext.refl w2).drew
  refine WH.tk (fuel := 14) 0 rfl (by kernel_rfl) (by kernel_rfl) (by kernel_rfl) (fun _ hK => (Ev.field (q := ⟨g1, 0, none⟩) fa_26_0 rfl rfl)) rfl (H1.rm s1) <| WH.tk (fuel := 13) 3 rfl (by kernel_rfl) (by kernel_rfl) (by kernel_rfl) (fun _ hK => (Ev.field (q := ⟨g1, 1, none⟩) fa_26_1 rfl rfl)) rfl (H1.rm s1) ?_
  refine WH.tk (fuel := 12) 6 rfl (by kernel_rfl) (by kernel_rfl) (by kernel_rfl) (fun _ hK => (Ev.field (q := ⟨g1, 2, none⟩) fa_26_2 rfl rfl)) rfl (H1.rm s1) <| WH.all (fuel := 11) (rs := [1, 4, 7]) (by kernel_rfl) (by decide) ?_
  simp only [List.forall_mem_cons, List.not_mem_nil, false_implies, implies_true, and_true]
  refine ⟨?_, ?_, ?_⟩
  ·
   refine ⟨_, rfl, ?_⟩
   refine ev (Ev.loadBoxCell na_22 rfl (H1.x s1) rfl) <| WH.next (H1.rm s1) <| WH.all (fuel := 10) (rs := [2, 4, 7]) (by kernel_rfl) (by decide) ?_
   simp only [List.forall_mem_cons, List.not_mem_nil, false_implies, implies_true, and_true]
   refine ⟨?_, ?_, ?_⟩
   ·
    refine ⟨_, rfl, ?_⟩
    refine WL.call rfl rfl rfl cl_60 (CloneNode_ok _ (H1.a h0_m).any (by first | omega | (simp; done) | decide)) rfl ?_
    rintro _ w3 ⟨A0_3, c0_3, rfl, h3⟩
    have K3 := H1.f1 h3
    have hL3_0 := (K3.o s0).len_le
    refine WH.next ((K3.rm s2).rm s0) <| WH.all (fuel := 9) (rs := [4, 7]) (by kernel_rfl) (by decide) ?_
    simp only [List.forall_mem_cons, List.not_mem_nil, false_implies, implies_true, and_true]
    refine ⟨?_, ?_⟩
    ·
     refine ⟨_, rfl, ?_⟩
     refine ev (Ev.loadBoxCell na_23 rfl (K3.x s2) rfl) <| WH.next ((K3.rm s2).rm s0) <| WH.all (fuel := 8) (rs := [5, 7]) (by kernel_rfl) (by decide) ?_
     simp only [List.forall_mem_cons, List.not_mem_nil, false_implies, implies_true, and_true]
     refine ⟨?_, ?_⟩
     ·
      refine ⟨_, rfl, ?_⟩
      refine WL.call rfl rfl rfl cl_48 (CloneChunk_ok _ (K3.a h1_m) (by first | omega | (simp; done) | decide)) rfl ?_
      rintro _ w4 ⟨A0_4, c0_4, rfl, h4⟩
      have K4 := K3.c1 h4
      have hL4_0 := (K4.o s0).len_le
      refine WH.next (((K4.rm s3).rm s1).rm s0) <| WH.all (fuel := 7) (rs := [7]) (by kernel_rfl) (by decide) ?_
      simp only [List.forall_mem_cons, List.not_mem_nil, false_implies, implies_true, and_true]
      refine ⟨_, rfl, ?_⟩
      refine ev (Ev.loadBoxCell na_24 rfl (K4.x s3) rfl) <| WH.next (((K4.rm s3).rm s1).rm s0) <| WH.tk (fuel := 6) 9 rfl (by kernel_rfl) (by kernel_rfl) (by kernel_rfl) (fun _ hK => (Ev.field (q := ⟨g1, 0, none⟩) fa_26_0 rfl rfl)) rfl (((K4.rm s3).rm s1).rm s0) ?_
      refine WH.all (fuel := 5) (rs := [8]) (by kernel_rfl) (by decide) ?_
      simp only [List.forall_mem_cons, List.not_mem_nil, false_implies, implies_true, and_true]
      refine ⟨_, rfl, ?_⟩
      refine WL.call rfl rfl rfl cl_61 (CloneSess_ok _ (K4.a h2_m).any (by first | omega | (simp; done) | decide)) rfl ?_
      rintro _ w5 ⟨A0_5, c0_5, rfl, h5⟩
      have K5 := K4.f1 h5
      have hL5_0 := (K5.o s0).len_le
      refine WH.next ((((K5.rm s4).rm s2).rm s1).rm s0) <| WH.all (fuel := 4) (rs := [10]) (by kernel_rfl) (by decide) ?_
      simp only [List.forall_mem_cons, List.not_mem_nil, false_implies, implies_true, and_true]
      refine ⟨_, rfl, ?_⟩
      refine stc rfl rfl rfl sz_22 K5 s4 rfl fun w6 K6 => ?_
      refine WH.next ((((K6.rm s3).rm s2).rm s1).rm s0) <| WH.tk (fuel := 3) 11 rfl (by kernel_rfl) (by kernel_rfl) (by kernel_rfl) (fun _ hK => (Ev.field (q := ⟨g1, 1, none⟩) fa_26_1 rfl rfl)) rfl ((((K6.rm s3).rm s2).rm s1).rm s0) ?_
      refine WH.all (fuel := 2) (rs := [12]) (by kernel_rfl) (by decide) ?_
      simp only [List.forall_mem_cons, List.not_mem_nil, false_implies, implies_true, and_true]
      refine ⟨_, rfl, ?_⟩
      refine stc rfl rfl rfl sz_23 K6 s0 rfl fun w7 K7 => ?_
      refine WH.next ((((K7.rm s3).rm s2).rm s1).rm s0) <| WH.tk (fuel := 1) 13 rfl (by kernel_rfl) (by kernel_rfl) (by kernel_rfl) (fun _ hK => (Ev.field (q := ⟨g1, 2, none⟩) fa_26_2 rfl rfl)) rfl ((((K7.rm s3).rm s2).rm s1).rm s0) ?_
      refine WH.all (fuel := 0) (rs := [14]) (by kernel_rfl) (by decide) ?_
      simp only [List.forall_mem_cons, List.not_mem_nil, false_implies, implies_true, and_true]
      refine ⟨_, rfl, ?_⟩
      refine stc rfl rfl rfl sz_24 K7 s0 rfl fun w8 K8 => ?_
      refine WH.next ((((K8.rm s3).rm s2).rm s1).rm s0) ?_
      exact WH.dn ⟨A0_5, c0_5, A0_4, c0_4, A0_3, c0_3, rfl, K8⟩ rfl (by kernel_rfl)
     ·
      refine ⟨_, rfl, ?_⟩
      refine ev (Ev.loadBoxCell na_24 rfl (K3.x s2) rfl) <| WH.next ((K3.rm s2).rm s0) <| WH.tk (fuel := 7) 9 rfl (by kernel_rfl) (by kernel_rfl) (by kernel_rfl) (fun _ hK => (Ev.field (q := ⟨g1, 0, none⟩) fa_26_0 rfl rfl)) rfl ((K3.rm s2).rm s0) ?_
      refine WH.all (fuel := 6) (rs := [5]) (by kernel_rfl) (by decide) ?_
      simp only [List.forall_mem_cons, List.not_mem_nil, false_implies, implies_true, and_true]
      refine ⟨_, rfl, ?_⟩
      refine WL.call rfl rfl rfl cl_48 (CloneChunk_ok _ (K3.a h1_m) (by first | omega | (simp; done) | decide)) rfl ?_
      rintro _ w9 ⟨A0_9, c0_9, rfl, h9⟩
      have K9 := K3.c1 h9
      have hL9_0 := (K9.o s0).len_le
      refine WH.next (((K9.rm s3).rm s1).rm s0) <| WH.all (fuel := 5) (rs := [8]) (by kernel_rfl) (by decide) ?_
      simp only [List.forall_mem_cons, List.not_mem_nil, false_implies, implies_true, and_true]
      refine ⟨_, rfl, ?_⟩
      refine WL.call rfl rfl rfl cl_61 (CloneSess_ok _ (K9.a h2_m).any (by first | omega | (simp; done) | decide)) rfl ?_
      rintro _ w10 ⟨A0_10, c0_10, rfl, h10⟩
      have K10 := K9.f1 h10
      have hL10_0 := (K10.o s0).len_le
      refine WH.next ((((K10.rm s4).rm s2).rm s1).rm s0) <| WH.all (fuel := 4) (rs := [10]) (by kernel_rfl) (by decide) ?_
      simp only [List.forall_mem_cons, List.not_mem_nil, false_implies, implies_true, and_true]
      refine ⟨_, rfl, ?_⟩
      refine stc rfl rfl rfl sz_22 K10 s4 rfl fun w11 K11 => ?_
      refine WH.next ((((K11.rm s3).rm s2).rm s1).rm s0) <| WH.tk (fuel := 3) 11 rfl (by kernel_rfl) (by kernel_rfl) (by kernel_rfl) (fun _ hK => (Ev.field (q := ⟨g1, 1, none⟩) fa_26_1 rfl rfl)) rfl ((((K11.rm s3).rm s2).rm s1).rm s0) ?_
      refine WH.all (fuel := 2) (rs := [12]) (by kernel_rfl) (by decide) ?_
      simp only [List.forall_mem_cons, List.not_mem_nil, false_implies, implies_true, and_true]
      refine ⟨_, rfl, ?_⟩
      refine stc rfl rfl rfl sz_23 K11 s0 rfl fun w12 K12 => ?_
      refine WH.next ((((K12.rm s3).rm s2).rm s1).rm s0) <| WH.tk (fuel := 1) 13 rfl (by kernel_rfl) (by kernel_rfl) (by kernel_rfl) (fun _ hK => (Ev.field (q := ⟨g1, 2, none⟩) fa_26_2 rfl rfl)) rfl ((((K12.rm s3).rm s2).rm s1).rm s0) ?_
      refine WH.all (fuel := 0) (rs := [14]) (by kernel_rfl) (by decide) ?_
      simp only [List.forall_mem_cons, List.not_mem_nil, false_implies, implies_true, and_true]
      refine ⟨_, rfl, ?_⟩
      refine stc rfl rfl rfl sz_24 K12 s0 rfl fun w13 K13 => ?_
      refine WH.next ((((K13.rm s3).rm s2).rm s1).rm s0) ?_
      exact WH.dn ⟨A0_10, c0_10, A0_9, c0_9, A0_3, c0_3, rfl, K13⟩ rfl (by kernel_rfl)
    ·
     refine ⟨_, rfl, ?_⟩
     refine ev (Ev.loadBoxCell na_24 rfl (K3.x s2) rfl) <| WH.next ((K3.rm s2).rm s0) <| WH.all (fuel := 8) (rs := [4]) (by kernel_rfl) (by decide) ?_
     simp only [List.forall_mem_cons, List.not_mem_nil, false_implies, implies_true, and_true]
     refine ⟨_, rfl, ?_⟩
     refine ev (Ev.loadBoxCell na_23 rfl (K3.x s2) rfl) <| WH.next ((K3.rm s2).rm s0) <| WH.tk (fuel := 7) 9 rfl (by kernel_rfl) (by kernel_rfl) (by kernel_rfl) (fun _ hK => (Ev.field (q := ⟨g1, 0, none⟩) fa_26_0 rfl rfl)) rfl ((K3.rm s2).rm s0) ?_
     refine WH.all (fuel := 6) (rs := [5]) (by kernel_rfl) (by decide) ?_
     simp only [List.forall_mem_cons, List.not_mem_nil, false_implies, implies_true, and_true]
     refine ⟨_, rfl, ?_⟩
     refine WL.call rfl rfl rfl cl_48 (CloneChunk_ok _ (K3.a h1_m) (by first | omega | (simp; done) | decide)) rfl ?_
     rintro _ w14 ⟨A0_14, c0_14, rfl, h14⟩
     have K14 := K3.c1 h14
     have hL14_0 := (K14.o s0).len_le
     refine WH.next (((K14.rm s3).rm s1).rm s0) <| WH.all (fuel := 5) (rs := [8]) (by kernel_rfl) (by decide) ?_
     simp only [List.forall_mem_cons, List.not_mem_nil, false_implies, implies_true, and_true]
     refine ⟨_, rfl, ?_⟩
     refine WL.call rfl rfl rfl cl_61 (CloneSess_ok _ (K14.a h2_m).any (by first | omega | (simp; done) | decide)) rfl ?_
     rintro _ w15 ⟨A0_15, c0_15, rfl, h15⟩
     have K15 := K14.f1 h15
     have hL15_0 := (K15.o s0).len_le
     refine WH.next ((((K15.rm s4).rm s2).rm s1).rm s0) <| WH.all (fuel := 4) (rs := [10]) (by kernel_rfl) (by decide) ?_
     simp only [List.forall_mem_cons, List.not_mem_nil, false_implies, implies_true, and_true]
     refine ⟨_, rfl, ?_⟩
     refine stc rfl rfl rfl sz_22 K15 s4 rfl fun w16 K16 => ?_
     refine WH.next ((((K16.rm s3).rm s2).rm s1).rm s0) <| WH.tk (fuel := 3) 11 rfl (by kernel_rfl) (by kernel_rfl) (by kernel_rfl) (fun _ hK => (Ev.field (q := ⟨g1, 1, none⟩) fa_26_1 rfl rfl)) rfl ((((K16.rm s3).rm s2).rm s1).rm s0) ?_
     refine WH.all (fuel := 2) (rs := [12]) (by kernel_rfl) (by decide) ?_
     simp only [List.forall_mem_cons, List.not_mem_nil, false_implies, implies_true, and_true]
     refine ⟨_, rfl, ?_⟩
     refine stc rfl rfl rfl sz_23 K16 s0 rfl fun w17 K17 => ?_
     refine WH.next ((((K17.rm s3).rm s2).rm s1).rm s0) <| WH.tk (fuel := 1) 13 rfl (by kernel_rfl) (by kernel_rfl) (by kernel_rfl) (fun _ hK => (Ev.field (q := ⟨g1, 2, none⟩) fa_26_2 rfl rfl)) rfl ((((K17.rm s3).rm s2).rm s1).rm s0) ?_
     refine WH.all (fuel := 0) (rs := [14]) (by kernel_rfl) (by decide) ?_
     simp only [List.forall_mem_cons, List.not_mem_nil, false_implies, implies_true, and_true]
     refine ⟨_, rfl, ?_⟩
     refine stc rfl rfl rfl sz_24 K17 s0 rfl fun w18 K18 => ?_
     refine WH.next ((((K18.rm s3).rm s2).rm s1).rm s0) ?_
     exact WH.dn ⟨A0_15, c0_15, A0_14, c0_14, A0_3, c0_3, rfl, K18⟩ rfl (by kernel_rfl)
   ·
    refine ⟨_, rfl, ?_⟩
    refine ev (Ev.loadBoxCell na_23 rfl (H1.x s1) rfl) <| WH.next (H1.rm s1) <| WH.all (fuel := 9) (rs := [2, 7]) (by kernel_rfl) (by decide) ?_
    simp only [List.forall_mem_cons, List.not_mem_nil, false_implies, implies_true, and_true]
    refine ⟨?_, ?_⟩
    ·
     refine ⟨_, rfl, ?_⟩
     refine WL.call rfl rfl rfl cl_60 (CloneNode_ok _ (H1.a h0_m).any (by first | omega | (simp; done) | decide)) rfl ?_
     rintro _ w19 ⟨A0_19, c0_19, rfl, h19⟩
     have K19 := H1.f1 h19
     have hL19_0 := (K19.o s0).len_le
     refine WH.next ((K19.rm s2).rm s0) <| WH.all (fuel := 8) (rs := [5, 7]) (by kernel_rfl) (by decide) ?_
     simp only [List.forall_mem_cons, List.not_mem_nil, false_implies, implies_true, and_true]
     refine ⟨?_, ?_⟩
     ·
      refine ⟨_, rfl, ?_⟩
      refine WL.call rfl rfl rfl cl_48 (CloneChunk_ok _ (K19.a h1_m) (by first | omega | (simp; done) | decide)) rfl ?_
      rintro _ w20 ⟨A0_20, c0_20, rfl, h20⟩
      have K20 := K19.c1 h20
      have hL20_0 := (K20.o s0).len_le
      refine WH.next (((K20.rm s3).rm s1).rm s0) <| WH.all (fuel := 7) (rs := [7]) (by kernel_rfl) (by decide) ?_
      simp only [List.forall_mem_cons, List.not_mem_nil, false_implies, implies_true, and_true]
      refine ⟨_, rfl, ?_⟩
      refine ev (Ev.loadBoxCell na_24 rfl (K20.x s3) rfl) <| WH.next (((K20.rm s3).rm s1).rm s0) <| WH.tk (fuel := 6) 9 rfl (by kernel_rfl) (by kernel_rfl) (by kernel_rfl) (fun _ hK => (Ev.field (q := ⟨g1, 0, none⟩) fa_26_0 rfl rfl)) rfl (((K20.rm s3).rm s1).rm s0) ?_
      refine WH.all (fuel := 5) (rs := [8]) (by kernel_rfl) (by decide) ?_
      simp only [List.forall_mem_cons, List.not_mem_nil, false_implies, implies_true, and_true]
      refine ⟨_, rfl, ?_⟩
      refine WL.call rfl rfl rfl cl_61 (CloneSess_ok _ (K20.a h2_m).any (by first | omega | (simp; done) | decide)) rfl ?_
      rintro _ w21 ⟨A0_21, c0_21, rfl, h21⟩
      have K21 := K20.f1 h21
      have hL21_0 := (K21.o s0).len_le
      refine WH.next ((((K21.rm s4).rm s2).rm s1).rm s0) <| WH.all (fuel := 4) (rs := [10]) (by kernel_rfl) (by decide) ?_
      simp only [List.forall_mem_cons, List.not_mem_nil, false_implies, implies_true, and_true]
      refine ⟨_, rfl, ?_⟩
      refine stc rfl rfl rfl sz_22 K21 s4 rfl fun w22 K22 => ?_
      refine WH.next ((((K22.rm s3).rm s2).rm s1).rm s0) <| WH.tk (fuel := 3) 11 rfl (by kernel_rfl) (by kernel_rfl) (by kernel_rfl) (fun _ hK => (Ev.field (q := ⟨g1, 1, none⟩) fa_26_1 rfl rfl)) rfl ((((K22.rm s3).rm s2).rm s1).rm s0) ?_
      refine WH.all (fuel := 2) (rs := [12]) (by kernel_rfl) (by decide) ?_
      simp only [List.forall_mem_cons, List.not_mem_nil, false_implies, implies_true, and_true]
      refine ⟨_, rfl, ?_⟩
      refine stc rfl rfl rfl sz_23 K22 s0 rfl fun w23 K23 => ?_
      refine WH.next ((((K23.rm s3).rm s2).rm s1).rm s0) <| WH.tk (fuel := 1) 13 rfl (by kernel_rfl) (by kernel_rfl) (by kernel_rfl) (fun _ hK => (Ev.field (q := ⟨g1, 2, none⟩) fa_26_2 rfl rfl)) rfl ((((K23.rm s3).rm s2).rm s1).rm s0) ?_
      refine WH.all (fuel := 0) (rs := [14]) (by kernel_rfl) (by decide) ?_
      simp only [List.forall_mem_cons, List.not_mem_nil, false_implies, implies_true, and_true]
      refine ⟨_, rfl, ?_⟩
      refine stc rfl rfl rfl sz_24 K23 s0 rfl fun w24 K24 => ?_
      refine WH.next ((((K24.rm s3).rm s2).rm s1).rm s0) ?_
      exact WH.dn ⟨A0_21, c0_21, A0_20, c0_20, A0_19, c0_19, rfl, K24⟩ rfl (by kernel_rfl)
     ·
      refine ⟨_, rfl, ?_⟩
      refine ev (Ev.loadBoxCell na_24 rfl (K19.x s2) rfl) <| WH.next ((K19.rm s2).rm s0) <| WH.tk (fuel := 7) 9 rfl (by kernel_rfl) (by kernel_rfl) (by kernel_rfl) (fun _ hK => (Ev.field (q := ⟨g1, 0, none⟩) fa_26_0 rfl rfl)) rfl ((K19.rm s2).rm s0) ?_
      refine WH.all (fuel := 6) (rs := [5]) (by kernel_rfl) (by decide) ?_
      simp only [List.forall_mem_cons, List.not_mem_nil, false_implies, implies_true, and_true]
      refine ⟨_, rfl, ?_⟩
      refine WL.call rfl rfl rfl cl_48 (CloneChunk_ok _ (K19.a h1_m) (by first | omega | (simp; done) | decide)) rfl ?_
      rintro _ w25 ⟨A0_25, c0_25, rfl, h25⟩
      have K25 := K19.c1 h25
      have hL25_0 := (K25.o s0).len_le
      refine WH.next (((K25.rm s3).rm s1).rm s0) <| WH.all (fuel := 5) (rs := [8]) (by kernel_rfl) (by decide) ?_
      simp only [List.forall_mem_cons, List.not_mem_nil, false_implies, implies_true, and_true]
      refine ⟨_, rfl, ?_⟩
      refine WL.call rfl rfl rfl cl_61 (CloneSess_ok _ (K25.a h2_m).any (by first | omega | (simp; done) | decide)) rfl ?_
      rintro _ w26 ⟨A0_26, c0_26, rfl, h26⟩
      have K26 := K25.f1 h26
      have hL26_0 := (K26.o s0).len_le
      refine WH.next ((((K26.rm s4).rm s2).rm s1).rm s0) <| WH.all (fuel := 4) (rs := [10]) (by kernel_rfl) (by decide) ?_
      simp only [List.forall_mem_cons, List.not_mem_nil, false_implies, implies_true, and_true]
      refine ⟨_, rfl, ?_⟩
      refine stc rfl rfl rfl sz_22 K26 s4 rfl fun w27 K27 => ?_
      refine WH.next ((((K27.rm s3).rm s2).rm s1).rm s0) <| WH.tk (fuel := 3) 11 rfl (by kernel_rfl) (by kernel_rfl) (by kernel_rfl) (fun _ hK => (Ev.field (q := ⟨g1, 1, none⟩) fa_26_1 rfl rfl)) rfl ((((K27.rm s3).rm s2).rm s1).rm s0) ?_
      refine WH.all (fuel := 2) (rs := [12]) (by kernel_rfl) (by decide) ?_
      simp only [List.forall_mem_cons, List.not_mem_nil, false_implies, implies_true, and_true]
      refine ⟨_, rfl, ?_⟩
      refine stc rfl rfl rfl sz_23 K27 s0 rfl fun w28 K28 => ?_
      refine WH.next ((((K28.rm s3).rm s2).rm s1).rm s0) <| WH.tk (fuel := 1) 13 rfl (by kernel_rfl) (by kernel_rfl) (by kernel_rfl) (fun _ hK => (Ev.field (q := ⟨g1, 2, none⟩) fa_26_2 rfl rfl)) rfl ((((K28.rm s3).rm s2).rm s1).rm s0) ?_
      refine WH.all (fuel := 0) (rs := [14]) (by kernel_rfl) (by decide) ?_
      simp only [List.forall_mem_cons, List.not_mem_nil, false_implies, implies_true, and_true]
      refine ⟨_, rfl, ?_⟩
      refine stc rfl rfl rfl sz_24 K28 s0 rfl fun w29 K29 => ?_
      refine WH.next ((((K29.rm s3).rm s2).rm s1).rm s0) ?_
      exact WH.dn ⟨A0_26, c0_26, A0_25, c0_25, A0_19, c0_19, rfl, K29⟩ rfl (by kernel_rfl)
    ·
     refine ⟨_, rfl, ?_⟩
     refine ev (Ev.loadBoxCell na_24 rfl (H1.x s1) rfl) <| WH.next (H1.rm s1) <| WH.all (fuel := 8) (rs := [2]) (by kernel_rfl) (by decide) ?_
     simp only [List.forall_mem_cons, List.not_mem_nil, false_implies, implies_true, and_true]
     refine ⟨_, rfl, ?_⟩
     refine WL.call rfl rfl rfl cl_60 (CloneNode_ok _ (H1.a h0_m).any (by first | omega | (simp; done) | decide)) rfl ?_
     rintro _ w30 ⟨A0_30, c0_30, rfl, h30⟩
     have K30 := H1.f1 h30
     have hL30_0 := (K30.o s0).len_le
     refine WH.next ((K30.rm s2).rm s0) <| WH.tk (fuel := 7) 9 rfl (by kernel_rfl) (by kernel_rfl) (by kernel_rfl) (fun _ hK => (Ev.field (q := ⟨g1, 0, none⟩) fa_26_0 rfl rfl)) rfl ((K30.rm s2).rm s0) ?_
     refine WH.all (fuel := 6) (rs := [5]) (by kernel_rfl) (by decide) ?_
     simp only [List.forall_mem_cons, List.not_mem_nil, false_implies, implies_true, and_true]
     refine ⟨_, rfl, ?_⟩
     refine WL.call rfl rfl rfl cl_48 (CloneChunk_ok _ (K30.a h1_m) (by first | omega | (simp; done) | decide)) rfl ?_
     rintro _ w31 ⟨A0_31, c0_31, rfl, h31⟩
     have K31 := K30.c1 h31
     have hL31_0 := (K31.o s0).len_le
     refine WH.next (((K31.rm s3).rm s1).rm s0) <| WH.all (fuel := 5) (rs := [8]) (by kernel_rfl) (by decide) ?_
     simp only [List.forall_mem_cons, List.not_mem_nil, false_implies, implies_true, and_true]
     refine ⟨_, rfl, ?_⟩
     refine WL.call rfl rfl rfl cl_61 (CloneSess_ok _ (K31.a h2_m).any (by first | omega | (simp; done) | decide)) rfl ?_
     rintro _ w32 ⟨A0_32, c0_32, rfl, h32⟩
     have K32 := K31.f1 h32
     have hL32_0 := (K32.o s0).len_le
     refine WH.next ((((K32.rm s4).rm s2).rm s1).rm s0) <| WH.all (fuel := 4) (rs := [10]) (by kernel_rfl) (by decide) ?_
     simp only [List.forall_mem_cons, List.not_mem_nil, false_implies, implies_true, and_true]
     refine ⟨_, rfl, ?_⟩
     refine stc rfl rfl rfl sz_22 K32 s4 rfl fun w33 K33 => ?_
     refine WH.next ((((K33.rm s3).rm s2).rm s1).rm s0) <| WH.tk (fuel := 3) 11 rfl (by kernel_rfl) (by kernel_rfl) (by kernel_rfl) (fun _ hK => (Ev.field (q := ⟨g1, 1, none⟩) fa_26_1 rfl rfl)) rfl ((((K33.rm s3).rm s2).rm s1).rm s0) ?_
     refine WH.all (fuel := 2) (rs := [12]) (by kernel_rfl) (by decide) ?_
     simp only [List.forall_mem_cons, List.not_mem_nil, false_implies, implies_true, and_true]
     refine ⟨_, rfl, ?_⟩
     refine stc rfl rfl rfl sz_23 K33 s0 rfl fun w34 K34 => ?_
     refine WH.next ((((K34.rm s3).rm s2).rm s1).rm s0) <| WH.tk (fuel := 1) 13 rfl (by kernel_rfl) (by kernel_rfl) (by kernel_rfl) (fun _ hK => (Ev.field (q := ⟨g1, 2, none⟩) fa_26_2 rfl rfl)) rfl ((((K34.rm s3).rm s2).rm s1).rm s0) ?_
     refine WH.all (fuel := 0) (rs := [14]) (by kernel_rfl) (by decide) ?_
     simp only [List.forall_mem_cons, List.not_mem_nil, false_implies, implies_true, and_true]
     refine ⟨_, rfl, ?_⟩
     refine stc rfl rfl rfl sz_24 K34 s0 rfl fun w35 K35 => ?_
     refine WH.next ((((K35.rm s3).rm s2).rm s1).rm s0) ?_
     exact WH.dn ⟨A0_32, c0_32, A0_31, c0_31, A0_30, c0_30, rfl, K35⟩ rfl (by kernel_rfl)
   ·
    refine ⟨_, rfl, ?_⟩
    refine ev (Ev.loadBoxCell na_24 rfl (H1.x s1) rfl) <| WH.next (H1.rm s1) <| WH.all (fuel := 9) (rs := [2, 4]) (by kernel_rfl) (by decide) ?_
    simp only [List.forall_mem_cons, List.not_mem_nil, false_implies, implies_true, and_true]
    refine ⟨?_, ?_⟩
    ·
     refine ⟨_, rfl, ?_⟩
     refine WL.call rfl rfl rfl cl_60 (CloneNode_ok _ (H1.a h0_m).any (by first | omega | (simp; done) | decide)) rfl ?_
     rintro _ w36 ⟨A0_36, c0_36, rfl, h36⟩
     have K36 := H1.f1 h36
     have hL36_0 := (K36.o s0).len_le
     refine WH.next ((K36.rm s2).rm s0) <| WH.all (fuel := 8) (rs := [4]) (by kernel_rfl) (by decide) ?_
     simp only [List.forall_mem_cons, List.not_mem_nil, false_implies, implies_true, and_true]
     refine ⟨_, rfl, ?_⟩
     refine ev (Ev.loadBoxCell na_23 rfl (K36.x s2) rfl) <| WH.next ((K36.rm s2).rm s0) <| WH.tk (fuel := 7) 9 rfl (by kernel_rfl) (by kernel_rfl) (by kernel_rfl) (fun _ hK => (Ev.field (q := ⟨g1, 0, none⟩) fa_26_0 rfl rfl)) rfl ((K36.rm s2).rm s0) ?_
     refine WH.all (fuel := 6) (rs := [5]) (by kernel_rfl) (by decide) ?_
     simp only [List.forall_mem_cons, List.not_mem_nil, false_implies, implies_true, and_true]
     refine ⟨_, rfl, ?_⟩
     refine WL.call rfl rfl rfl cl_48 (CloneChunk_ok _ (K36.a h1_m) (by first | omega | (simp; done) | decide)) rfl ?_
     rintro _ w37 ⟨A0_37, c0_37, rfl, h37⟩
     have K37 := K36.c1 h37
     have hL37_0 := (K37.o s0).len_le
     refine WH.next (((K37.rm s3).rm s1).rm s0) <| WH.all (fuel := 5) (rs := [8]) (by kernel_rfl) (by decide) ?_
     simp only [List.forall_mem_cons, List.not_mem_nil, false_implies, implies_true, and_true]
     refine ⟨_, rfl, ?_⟩
     refine WL.call rfl rfl rfl cl_61 (CloneSess_ok _ (K37.a h2_m).any (by first | omega | (simp; done) | decide)) rfl ?_
     rintro _ w38 ⟨A0_38, c0_38, rfl, h38⟩
     have K38 := K37.f1 h38
     have hL38_0 := (K38.o s0).len_le
     refine WH.next ((((K38.rm s4).rm s2).rm s1).rm s0) <| WH.all (fuel := 4) (rs := [10]) (by kernel_rfl) (by decide) ?_
     simp only [List.forall_mem_cons, List.not_mem_nil, false_implies, implies_true, and_true]
     refine ⟨_, rfl, ?_⟩
     refine stc rfl rfl rfl sz_22 K38 s4 rfl fun w39 K39 => ?_
     refine WH.next ((((K39.rm s3).rm s2).rm s1).rm s0) <| WH.tk (fuel := 3) 11 rfl (by kernel_rfl) (by kernel_rfl) (by kernel_rfl) (fun _ hK => (Ev.field (q := ⟨g1, 1, none⟩) fa_26_1 rfl rfl)) rfl ((((K39.rm s3).rm s2).rm s1).rm s0) ?_
     refine WH.all (fuel := 2) (rs := [12]) (by kernel_rfl) (by decide) ?_
     simp only [List.forall_mem_cons, List.not_mem_nil, false_implies, implies_true, and_true]
     refine ⟨_, rfl, ?_⟩
     refine stc rfl rfl rfl sz_23 K39 s0 rfl fun w40 K40 => ?_
     refine WH.next ((((K40.rm s3).rm s2).rm s1).rm s0) <| WH.tk (fuel := 1) 13 rfl (by kernel_rfl) (by kernel_rfl) (by kernel_rfl) (fun _ hK => (Ev.field (q := ⟨g1, 2, none⟩) fa_26_2 rfl rfl)) rfl ((((K40.rm s3).rm s2).rm s1).rm s0) ?_
     refine WH.all (fuel := 0) (rs := [14]) (by kernel_rfl) (by decide) ?_
     simp only [List.forall_mem_cons, List.not_mem_nil, false_implies, implies_true, and_true]
     refine ⟨_, rfl, ?_⟩
     refine stc rfl rfl rfl sz_24 K40 s0 rfl fun w41 K41 => ?_
     refine WH.next ((((K41.rm s3).rm s2).rm s1).rm s0) ?_
     exact WH.dn ⟨A0_38, c0_38, A0_37, c0_37, A0_36, c0_36, rfl, K41⟩ rfl (by kernel_rfl)
    ·
     refine ⟨_, rfl, ?_⟩
     refine ev (Ev.loadBoxCell na_23 rfl (H1.x s1) rfl) <| WH.next (H1.rm s1) <| WH.all (fuel := 8) (rs := [2]) (by kernel_rfl) (by decide) ?_
     simp only [List.forall_mem_cons, List.not_mem_nil, false_implies, implies_true, and_true]
     refine ⟨_, rfl, ?_⟩
     refine WL.call rfl rfl rfl cl_60 (CloneNode_ok _ (H1.a h0_m).any (by first | omega | (simp; done) | decide)) rfl ?_
     rintro _ w42 ⟨A0_42, c0_42, rfl, h42⟩
     have K42 := H1.f1 h42
     have hL42_0 := (K42.o s0).len_le
     refine WH.next ((K42.rm s2).rm s0) <| WH.tk (fuel := 7) 9 rfl (by kernel_rfl) (by kernel_rfl) (by kernel_rfl) (fun _ hK => (Ev.field (q := ⟨g1, 0, none⟩) fa_26_0 rfl rfl)) rfl ((K42.rm s2).rm s0) ?_
     refine WH.all (fuel := 6) (rs := [5]) (by kernel_rfl) (by decide) ?_
     simp only [List.forall_mem_cons, List.not_mem_nil, false_implies, implies_true, and_true]
     refine ⟨_, rfl, ?_⟩
     refine WL.call rfl rfl rfl cl_48 (CloneChunk_ok _ (K42.a h1_m) (by first | omega | (simp; done) | decide)) rfl ?_
     rintro _ w43 ⟨A0_43, c0_43, rfl, h43⟩
     have K43 := K42.c1 h43
     have hL43_0 := (K43.o s0).len_le
     refine WH.next (((K43.rm s3).rm s1).rm s0) <| WH.all (fuel := 5) (rs := [8]) (by kernel_rfl) (by decide) ?_
     simp only [List.forall_mem_cons, List.not_mem_nil, false_implies, implies_true, and_true]
     refine ⟨_, rfl, ?_⟩
     refine WL.call rfl rfl rfl cl_61 (CloneSess_ok _ (K43.a h2_m).any (by first | omega | (simp; done) | decide)) rfl ?_
     rintro _ w44 ⟨A0_44, c0_44, rfl, h44⟩
     have K44 := K43.f1 h44
     have hL44_0 := (K44.o s0).len_le
     refine WH.next ((((K44.rm s4).rm s2).rm s1).rm s0) <| WH.all (fuel := 4) (rs := [10]) (by kernel_rfl) (by decide) ?_
     simp only [List.forall_mem_cons, List.not_mem_nil, false_implies, implies_true, and_true]
     refine ⟨_, rfl, ?_⟩
     refine stc rfl rfl rfl sz_22 K44 s4 rfl fun w45 K45 => ?_
     refine WH.next ((((K45.rm s3).rm s2).rm s1).rm s0) <| WH.tk (fuel := 3) 11 rfl (by kernel_rfl) (by kernel_rfl) (by kernel_rfl) (fun _ hK => (Ev.field (q := ⟨g1, 1, none⟩) fa_26_1 rfl rfl)) rfl ((((K45.rm s3).rm s2).rm s1).rm s0) ?_
     refine WH.all (fuel := 2) (rs := [12]) (by kernel_rfl) (by decide) ?_
     simp only [List.forall_mem_cons, List.not_mem_nil, false_implies, implies_true, and_true]
     refine ⟨_, rfl, ?_⟩
     refine stc rfl rfl rfl sz_23 K45 s0 rfl fun w46 K46 => ?_
     refine WH.next ((((K46.rm s3).rm s2).rm s1).rm s0) <| WH.tk (fuel := 1) 13 rfl (by kernel_rfl) (by kernel_rfl) (by kernel_rfl) (fun _ hK => (Ev.field (q := ⟨g1, 2, none⟩) fa_26_2 rfl rfl)) rfl ((((K46.rm s3).rm s2).rm s1).rm s0) ?_
     refine WH.all (fuel := 0) (rs := [14]) (by kernel_rfl) (by decide) ?_
     simp only [List.forall_mem_cons, List.not_mem_nil, false_implies, implies_true, and_true]
     refine ⟨_, rfl, ?_⟩
     refine stc rfl rfl rfl sz_24 K46 s0 rfl fun w47 K47 => ?_
     refine WH.next ((((K47.rm s3).rm s2).rm s1).rm s0) ?_
     exact WH.dn ⟨A0_44, c0_44, A0_43, c0_43, A0_42, c0_42, rfl, K47⟩ rfl (by kernel_rfl)
  ·
   refine ⟨_, rfl, ?_⟩
   refine ev (Ev.loadBoxCell na_23 rfl (H1.x s1) rfl) <| WH.next (H1.rm s1) <| WH.all (fuel := 10) (rs := [1, 7]) (by kernel_rfl) (by decide) ?_
   simp only [List.forall_mem_cons, List.not_mem_nil, false_implies, implies_true, and_true]
   refine ⟨?_, ?_⟩
   ·
    refine ⟨_, rfl, ?_⟩
    refine ev (Ev.loadBoxCell na_22 rfl (H1.x s1) rfl) <| WH.next (H1.rm s1) <| WH.all (fuel := 9) (rs := [2, 7]) (by kernel_rfl) (by decide) ?_
    simp only [List.forall_mem_cons, List.not_mem_nil, false_implies, implies_true, and_true]
    refine ⟨?_, ?_⟩
    ·
     refine ⟨_, rfl, ?_⟩
     refine WL.call rfl rfl rfl cl_60 (CloneNode_ok _ (H1.a h0_m).any (by first | omega | (simp; done) | decide)) rfl ?_
     rintro _ w48 ⟨A0_48, c0_48, rfl, h48⟩
     have K48 := H1.f1 h48
     have hL48_0 := (K48.o s0).len_le
     refine WH.next ((K48.rm s2).rm s0) <| WH.all (fuel := 8) (rs := [5, 7]) (by kernel_rfl) (by decide) ?_
     simp only [List.forall_mem_cons, List.not_mem_nil, false_implies, implies_true, and_true]
     refine ⟨?_, ?_⟩
     ·
      refine ⟨_, rfl, ?_⟩
      refine WL.call rfl rfl rfl cl_48 (CloneChunk_ok _ (K48.a h1_m) (by first | omega | (simp; done) | decide)) rfl ?_
      rintro _ w49 ⟨A0_49, c0_49, rfl, h49⟩
      have K49 := K48.c1 h49
      have hL49_0 := (K49.o s0).len_le
      refine WH.next (((K49.rm s3).rm s1).rm s0) <| WH.all (fuel := 7) (rs := [7]) (by kernel_rfl) (by decide) ?_
      simp only [List.forall_mem_cons, List.not_mem_nil, false_implies, implies_true, and_true]
      refine ⟨_, rfl, ?_⟩
      refine ev (Ev.loadBoxCell na_24 rfl (K49.x s3) rfl) <| WH.next (((K49.rm s3).rm s1).rm s0) <| WH.tk (fuel := 6) 9 rfl (by kernel_rfl) (by kernel_rfl) (by kernel_rfl) (fun _ hK => (Ev.field (q := ⟨g1, 0, none⟩) fa_26_0 rfl rfl)) rfl (((K49.rm s3).rm s1).rm s0) ?_
      refine WH.all (fuel := 5) (rs := [8]) (by kernel_rfl) (by decide) ?_
      simp only [List.forall_mem_cons, List.not_mem_nil, false_implies, implies_true, and_true]
      refine ⟨_, rfl, ?_⟩
      refine WL.call rfl rfl rfl cl_61 (CloneSess_ok _ (K49.a h2_m).any (by first | omega | (simp; done) | decide)) rfl ?_
      rintro _ w50 ⟨A0_50, c0_50, rfl, h50⟩
      have K50 := K49.f1 h50
      have hL50_0 := (K50.o s0).len_le
      refine WH.next ((((K50.rm s4).rm s2).rm s1).rm s0) <| WH.all (fuel := 4) (rs := [10]) (by kernel_rfl) (by decide) ?_
      simp only [List.forall_mem_cons, List.not_mem_nil, false_implies, implies_true, and_true]
      refine ⟨_, rfl, ?_⟩
      refine stc rfl rfl rfl sz_22 K50 s4 rfl fun w51 K51 => ?_
      refine WH.next ((((K51.rm s3).rm s2).rm s1).rm s0) <| WH.tk (fuel := 3) 11 rfl (by kernel_rfl) (by kernel_rfl) (by kernel_rfl) (fun _ hK => (Ev.field (q := ⟨g1, 1, none⟩) fa_26_1 rfl rfl)) rfl ((((K51.rm s3).rm s2).rm s1).rm s0) ?_
      refine WH.all (fuel := 2) (rs := [12]) (by kernel_rfl) (by decide) ?_
      simp only [List.forall_mem_cons, List.not_mem_nil, false_implies, implies_true, and_true]
      refine ⟨_, rfl, ?_⟩
      refine stc rfl rfl rfl sz_23 K51 s0 rfl fun w52 K52 => ?_
      refine WH.next ((((K52.rm s3).rm s2).rm s1).rm s0) <| WH.tk (fuel := 1) 13 rfl (by kernel_rfl) (by kernel_rfl) (by kernel_rfl) (fun _ hK => (Ev.field (q := ⟨g1, 2, none⟩) fa_26_2 rfl rfl)) rfl ((((K52.rm s3).rm s2).rm s1).rm s0) ?_
      refine WH.all (fuel := 0) (rs := [14]) (by kernel_rfl) (by decide) ?_
      simp only [List.forall_mem_cons, List.not_mem_nil, false_implies, implies_true, and_true]
      refine ⟨_, rfl, ?_⟩
      refine stc rfl rfl rfl sz_24 K52 s0 rfl fun w53 K53 => ?_
      refine WH.next ((((K53.rm s3).rm s2).rm s1).rm s0) ?_
      exact WH.dn ⟨A0_50, c0_50, A0_49, c0_49, A0_48, c0_48, rfl, K53⟩ rfl (by kernel_rfl)
     ·
      refine ⟨_, rfl, ?_⟩
      refine ev (Ev.loadBoxCell na_24 rfl (K48.x s2) rfl) <| WH.next ((K48.rm s2).rm s0) <| WH.tk (fuel := 7) 9 rfl (by kernel_rfl) (by kernel_rfl) (by kernel_rfl) (fun _ hK => (Ev.field (q := ⟨g1, 0, none⟩) fa_26_0 rfl rfl)) rfl ((K48.rm s2).rm s0) ?_
      refine WH.all (fuel := 6) (rs := [5]) (by kernel_rfl) (by decide) ?_
      simp only [List.forall_mem_cons, List.not_mem_nil, false_implies, implies_true, and_true]
      refine ⟨_, rfl, ?_⟩
      refine WL.call rfl rfl rfl cl_48 (CloneChunk_ok _ (K48.a h1_m) (by first | omega | (simp; done) | decide)) rfl ?_
      rintro _ w54 ⟨A0_54, c0_54, rfl, h54⟩
      have K54 := K48.c1 h54
      have hL54_0 := (K54.o s0).len_le
      refine WH.next (((K54.rm s3).rm s1).rm s0) <| WH.all (fuel := 5) (rs := [8]) (by kernel_rfl) (by decide) ?_
      simp only [List.forall_mem_cons, List.not_mem_nil, false_implies, implies_true, and_true]
      refine ⟨_, rfl, ?_⟩
      refine WL.call rfl rfl rfl cl_61 (CloneSess_ok _ (K54.a h2_m).any (by first | omega | (simp; done) | decide)) rfl ?_
      rintro _ w55 ⟨A0_55, c0_55, rfl, h55⟩
      have K55 := K54.f1 h55
      have hL55_0 := (K55.o s0).len_le
      refine WH.next ((((K55.rm s4).rm s2).rm s1).rm s0) <| WH.all (fuel := 4) (rs := [10]) (by kernel_rfl) (by decide) ?_
      simp only [List.forall_mem_cons, List.not_mem_nil, false_implies, implies_true, and_true]
      refine ⟨_, rfl, ?_⟩
      refine stc rfl rfl rfl sz_22 K55 s4 rfl fun w56 K56 => ?_
      refine WH.next ((((K56.rm s3).rm s2).rm s1).rm s0) <| WH.tk (fuel := 3) 11 rfl (by kernel_rfl) (by kernel_rfl) (by kernel_rfl) (fun _ hK => (Ev.field (q := ⟨g1, 1, none⟩) fa_26_1 rfl rfl)) rfl ((((K56.rm s3).rm s2).rm s1).rm s0) ?_
      refine WH.all (fuel := 2) (rs := [12]) (by kernel_rfl) (by decide) ?_
      simp only [List.forall_mem_cons, List.not_mem_nil, false_implies, implies_true, and_true]
      refine ⟨_, rfl, ?_⟩
      refine stc rfl rfl rfl sz_23 K56 s0 rfl fun w57 K57 => ?_
      refine WH.next ((((K57.rm s3).rm s2).rm s1).rm s0) <| WH.tk (fuel := 1) 13 rfl (by kernel_rfl) (by kernel_rfl) (by kernel_rfl) (fun _ hK => (Ev.field (q := ⟨g1, 2, none⟩) fa_26_2 rfl rfl)) rfl ((((K57.rm s3).rm s2).rm s1).rm s0) ?_
      refine WH.all (fuel := 0) (rs := [14]) (by kernel_rfl) (by decide) ?_
      simp only [List.forall_mem_cons, List.not_mem_nil, false_implies, implies_true, and_true]
      refine ⟨_, rfl, ?_⟩
      refine stc rfl rfl rfl sz_24 K57 s0 rfl fun w58 K58 => ?_
      refine WH.next ((((K58.rm s3).rm s2).rm s1).rm s0) ?_
      exact WH.dn ⟨A0_55, c0_55, A0_54, c0_54, A0_48, c0_48, rfl, K58⟩ rfl (by kernel_rfl)
    ·
     refine ⟨_, rfl, ?_⟩
     refine ev (Ev.loadBoxCell na_24 rfl (H1.x s1) rfl) <| WH.next (H1.rm s1) <| WH.all (fuel := 8) (rs := [2]) (by kernel_rfl) (by decide) ?_
     simp only [List.forall_mem_cons, List.not_mem_nil, false_implies, implies_true, and_true]
     refine ⟨_, rfl, ?_⟩
     refine WL.call rfl rfl rfl cl_60 (CloneNode_ok _ (H1.a h0_m).any (by first | omega | (simp; done) | decide)) rfl ?_
     rintro _ w59 ⟨A0_59, c0_59, rfl, h59⟩
     have K59 := H1.f1 h59
     have hL59_0 := (K59.o s0).len_le
     refine WH.next ((K59.rm s2).rm s0) <| WH.tk (fuel := 7) 9 rfl (by kernel_rfl) (by kernel_rfl) (by kernel_rfl) (fun _ hK => (Ev.field (q := ⟨g1, 0, none⟩) fa_26_0 rfl rfl)) rfl ((K59.rm s2).rm s0) ?_
     refine WH.all (fuel := 6) (rs := [5]) (by kernel_rfl) (by decide) ?_
     simp only [List.forall_mem_cons, List.not_mem_nil, false_implies, implies_true, and_true]
     refine ⟨_, rfl, ?_⟩
     refine WL.call rfl rfl rfl cl_48 (CloneChunk_ok _ (K59.a h1_m) (by first | omega | (simp; done) | decide)) rfl ?_
     rintro _ w60 ⟨A0_60, c0_60, rfl, h60⟩
     have K60 := K59.c1 h60
     have hL60_0 := (K60.o s0).len_le
     refine WH.next (((K60.rm s3).rm s1).rm s0) <| WH.all (fuel := 5) (rs := [8]) (by kernel_rfl) (by decide) ?_
     simp only [List.forall_mem_cons, List.not_mem_nil, false_implies, implies_true, and_true]
     refine ⟨_, rfl, ?_⟩
     refine WL.call rfl rfl rfl cl_61 (CloneSess_ok _ (K60.a h2_m).any (by first | omega | (simp; done) | decide)) rfl ?_
     rintro _ w61 ⟨A0_61, c0_61, rfl, h61⟩
     have K61 := K60.f1 h61
     have hL61_0 := (K61.o s0).len_le
     refine WH.next ((((K61.rm s4).rm s2).rm s1).rm s0) <| WH.all (fuel := 4) (rs := [10]) (by kernel_rfl) (by decide) ?_
     simp only [List.forall_mem_cons, List.not_mem_nil, false_implies, implies_true, and_true]
     refine ⟨_, rfl, ?_⟩
     refine stc rfl rfl rfl sz_22 K61 s4 rfl fun w62 K62 => ?_
     refine WH.next ((((K62.rm s3).rm s2).rm s1).rm s0) <| WH.tk (fuel := 3) 11 rfl (by kernel_rfl) (by kernel_rfl) (by kernel_rfl) (fun _ hK => (Ev.field (q := ⟨g1, 1, none⟩) fa_26_1 rfl rfl)) rfl ((((K62.rm s3).rm s2).rm s1).rm s0) ?_
     refine WH.all (fuel := 2) (rs := [12]) (by kernel_rfl) (by decide) ?_
     simp only [List.forall_mem_cons, List.not_mem_nil, false_implies, implies_true, and_true]
     refine ⟨_, rfl, ?_⟩
     refine stc rfl rfl rfl sz_23 K62 s0 rfl fun w63 K63 => ?_
     refine WH.next ((((K63.rm s3).rm s2).rm s1).rm s0) <| WH.tk (fuel := 1) 13 rfl (by kernel_rfl) (by kernel_rfl) (by kernel_rfl) (fun _ hK => (Ev.field (q := ⟨g1, 2, none⟩) fa_26_2 rfl rfl)) rfl ((((K63.rm s3).rm s2).rm s1).rm s0) ?_
     refine WH.all (fuel := 0) (rs := [14]) (by kernel_rfl) (by decide) ?_
     simp only [List.forall_mem_cons, List.not_mem_nil, false_implies, implies_true, and_true]
     refine ⟨_, rfl, ?_⟩
     refine stc rfl rfl rfl sz_24 K63 s0 rfl fun w64 K64 => ?_
     refine WH.next ((((K64.rm s3).rm s2).rm s1).rm s0) ?_
     exact WH.dn ⟨A0_61, c0_61, A0_60, c0_60, A0_59, c0_59, rfl, K64⟩ rfl (by kernel_rfl)
   ·
    refine ⟨_, rfl, ?_⟩
    refine ev (Ev.loadBoxCell na_24 rfl (H1.x s1) rfl) <| WH.next (H1.rm s1) <| WH.all (fuel := 9) (rs := [1]) (by kernel_rfl) (by decide) ?_
    simp only [List.forall_mem_cons, List.not_mem_nil, false_implies, implies_true, and_true]
    refine ⟨_, rfl, ?_⟩
    refine ev (Ev.loadBoxCell na_22 rfl (H1.x s1) rfl) <| WH.next (H1.rm s1) <| WH.all (fuel := 8) (rs := [2]) (by kernel_rfl) (by decide) ?_
    simp only [List.forall_mem_cons, List.not_mem_nil, false_implies, implies_true, and_true]
    refine ⟨_, rfl, ?_⟩
    refine WL.call rfl rfl rfl cl_60 (CloneNode_ok _ (H1.a h0_m).any (by first | omega | (simp; done) | decide)) rfl ?_
    rintro _ w65 ⟨A0_65, c0_65, rfl, h65⟩
    have K65 := H1.f1 h65
    have hL65_0 := (K65.o s0).len_le
    refine WH.next ((K65.rm s2).rm s0) <| WH.tk (fuel := 7) 9 rfl (by kernel_rfl) (by kernel_rfl) (by kernel_rfl) (fun _ hK => (Ev.field (q := ⟨g1, 0, none⟩) fa_26_0 rfl rfl)) rfl ((K65.rm s2).rm s0) ?_
    refine WH.all (fuel := 6) (rs := [5]) (by kernel_rfl) (by decide) ?_
    simp only [List.forall_mem_cons, List.not_mem_nil, false_implies, implies_true, and_true]
    refine ⟨_, rfl, ?_⟩
    refine WL.call rfl rfl rfl cl_48 (CloneChunk_ok _ (K65.a h1_m) (by first | omega | (simp; done) | decide)) rfl ?_
    rintro _ w66 ⟨A0_66, c0_66, rfl, h66⟩
    have K66 := K65.c1 h66
    have hL66_0 := (K66.o s0).len_le
    refine WH.next (((K66.rm s3).rm s1).rm s0) <| WH.all (fuel := 5) (rs := [8]) (by kernel_rfl) (by decide) ?_
    simp only [List.forall_mem_cons, List.not_mem_nil, false_implies, implies_true, and_true]
    refine ⟨_, rfl, ?_⟩
    refine WL.call rfl rfl rfl cl_61 (CloneSess_ok _ (K66.a h2_m).any (by first | omega | (simp; done) | decide)) rfl ?_
    rintro _ w67 ⟨A0_67, c0_67, rfl, h67⟩
    have K67 := K66.f1 h67
    have hL67_0 := (K67.o s0).len_le
    refine WH.next ((((K67.rm s4).rm s2).rm s1).rm s0) <| WH.all (fuel := 4) (rs := [10]) (by kernel_rfl) (by decide) ?_
    simp only [List.forall_mem_cons, List.not_mem_nil, false_implies, implies_true, and_true]
    refine ⟨_, rfl, ?_⟩
    refine stc rfl rfl rfl sz_22 K67 s4 rfl fun w68 K68 => ?_
    refine WH.next ((((K68.rm s3).rm s2).rm s1).rm s0) <| WH.tk (fuel := 3) 11 rfl (by kernel_rfl) (by kernel_rfl) (by kernel_rfl) (fun _ hK => (Ev.field (q := ⟨g1, 1, none⟩) fa_26_1 rfl rfl)) rfl ((((K68.rm s3).rm s2).rm s1).rm s0) ?_
    refine WH.all (fuel := 2) (rs := [12]) (by kernel_rfl) (by decide) ?_
    simp only [List.forall_mem_cons, List.not_mem_nil, false_implies, implies_true, and_true]
    refine ⟨_, rfl, ?_⟩
    refine stc rfl rfl rfl sz_23 K68 s0 rfl fun w69 K69 => ?_
    refine WH.next ((((K69.rm s3).rm s2).rm s1).rm s0) <| WH.tk (fuel := 1) 13 rfl (by kernel_rfl) (by kernel_rfl) (by kernel_rfl) (fun _ hK => (Ev.field (q := ⟨g1, 2, none⟩) fa_26_2 rfl rfl)) rfl ((((K69.rm s3).rm s2).rm s1).rm s0) ?_
    refine WH.all (fuel := 0) (rs := [14]) (by kernel_rfl) (by decide) ?_
    simp only [List.forall_mem_cons, List.not_mem_nil, false_implies, implies_true, and_true]
    refine ⟨_, rfl, ?_⟩
    refine stc rfl rfl rfl sz_24 K69 s0 rfl fun w70 K70 => ?_
    refine WH.next ((((K70.rm s3).rm s2).rm s1).rm s0) ?_
    exact WH.dn ⟨A0_67, c0_67, A0_66, c0_66, A0_65, c0_65, rfl, K70⟩ rfl (by kernel_rfl)
  ·
   refine ⟨_, rfl, ?_⟩
   refine ev (Ev.loadBoxCell na_24 rfl (H1.x s1) rfl) <| WH.next (H1.rm s1) <| WH.all (fuel := 10) (rs := [1, 4]) (by kernel_rfl) (by decide) ?_
   simp only [List.forall_mem_cons, List.not_mem_nil, false_implies, implies_true, and_true]
   refine ⟨?_, ?_⟩
   ·
    refine ⟨_, rfl, ?_⟩
    refine ev (Ev.loadBoxCell na_22 rfl (H1.x s1) rfl) <| WH.next (H1.rm s1) <| WH.all (fuel := 9) (rs := [2, 4]) (by kernel_rfl) (by decide) ?_
    simp only [List.forall_mem_cons, List.not_mem_nil, false_implies, implies_true, and_true]
    refine ⟨?_, ?_⟩
    ·
     refine ⟨_, rfl, ?_⟩
     refine WL.call rfl rfl rfl cl_60 (CloneNode_ok _ (H1.a h0_m).any (by first | omega | (simp; done) | decide)) rfl ?_
     rintro _ w71 ⟨A0_71, c0_71, rfl, h71⟩
     have K71 := H1.f1 h71
     have hL71_0 := (K71.o s0).len_le
     refine WH.next ((K71.rm s2).rm s0) <| WH.all (fuel := 8) (rs := [4]) (by kernel_rfl) (by decide) ?_
     simp only [List.forall_mem_cons, List.not_mem_nil, false_implies, implies_true, and_true]
     refine ⟨_, rfl, ?_⟩
     refine ev (Ev.loadBoxCell na_23 rfl (K71.x s2) rfl) <| WH.next ((K71.rm s2).rm s0) <| WH.tk (fuel := 7) 9 rfl (by kernel_rfl) (by kernel_rfl) (by kernel_rfl) (fun _ hK => (Ev.field (q := ⟨g1, 0, none⟩) fa_26_0 rfl rfl)) rfl ((K71.rm s2).rm s0) ?_
     refine WH.all (fuel := 6) (rs := [5]) (by kernel_rfl) (by decide) ?_
     simp only [List.forall_mem_cons, List.not_mem_nil, false_implies, implies_true, and_true]
     refine ⟨_, rfl, ?_⟩
     refine WL.call rfl rfl rfl cl_48 (CloneChunk_ok _ (K71.a h1_m) (by first | omega | (simp; done) | decide)) rfl ?_
     rintro _ w72 ⟨A0_72, c0_72, rfl, h72⟩
     have K72 := K71.c1 h72
     have hL72_0 := (K72.o s0).len_le
     refine WH.next (((K72.rm s3).rm s1).rm s0) <| WH.all (fuel := 5) (rs := [8]) (by kernel_rfl) (by decide) ?_
     simp only [List.forall_mem_cons, List.not_mem_nil, false_implies, implies_true, and_true]
     refine ⟨_, rfl, ?_⟩
     refine WL.call rfl rfl rfl cl_61 (CloneSess_ok _ (K72.a h2_m).any (by first | omega | (simp; done) | decide)) rfl ?_
     rintro _ w73 ⟨A0_73, c0_73, rfl, h73⟩
     have K73 := K72.f1 h73
     have hL73_0 := (K73.o s0).len_le
     refine WH.next ((((K73.rm s4).rm s2).rm s1).rm s0) <| WH.all (fuel := 4) (rs := [10]) (by kernel_rfl) (by decide) ?_
     simp only [List.forall_mem_cons, List.not_mem_nil, false_implies, implies_true, and_true]
     refine ⟨_, rfl, ?_⟩
     refine stc rfl rfl rfl sz_22 K73 s4 rfl fun w74 K74 => ?_
     refine WH.next ((((K74.rm s3).rm s2).rm s1).rm s0) <| WH.tk (fuel := 3) 11 rfl (by kernel_rfl) (by kernel_rfl) (by kernel_rfl) (fun _ hK => (Ev.field (q := ⟨g1, 1, none⟩) fa_26_1 rfl rfl)) rfl ((((K74.rm s3).rm s2).rm s1).rm s0) ?_
     refine WH.all (fuel := 2) (rs := [12]) (by kernel_rfl) (by decide) ?_
     simp only [List.forall_mem_cons, List.not_mem_nil, false_implies, implies_true, and_true]
     refine ⟨_, rfl, ?_⟩
     refine stc rfl rfl rfl sz_23 K74 s0 rfl fun w75 K75 => ?_
     refine WH.next ((((K75.rm s3).rm s2).rm s1).rm s0) <| WH.tk (fuel := 1) 13 rfl (by kernel_rfl) (by kernel_rfl) (by kernel_rfl) (fun _ hK => (Ev.field (q := ⟨g1, 2, none⟩) fa_26_2 rfl rfl)) rfl ((((K75.rm s3).rm s2).rm s1).rm s0) ?_
     refine WH.all (fuel := 0) (rs := [14]) (by kernel_rfl) (by decide) ?_
     simp only [List.forall_mem_cons, List.not_mem_nil, false_implies, implies_true, and_true]
     refine ⟨_, rfl, ?_⟩
     refine stc rfl rfl rfl sz_24 K75 s0 rfl fun w76 K76 => ?_
     refine WH.next ((((K76.rm s3).rm s2).rm s1).rm s0) ?_
     exact WH.dn ⟨A0_73, c0_73, A0_72, c0_72, A0_71, c0_71, rfl, K76⟩ rfl (by kernel_rfl)
    ·
     refine ⟨_, rfl, ?_⟩
     refine ev (Ev.loadBoxCell na_23 rfl (H1.x s1) rfl) <| WH.next (H1.rm s1) <| WH.all (fuel := 8) (rs := [2]) (by kernel_rfl) (by decide) ?_
     simp only [List.forall_mem_cons, List.not_mem_nil, false_implies, implies_true, and_true]
     refine ⟨_, rfl, ?_⟩
     refine WL.call rfl rfl rfl cl_60 (CloneNode_ok _ (H1.a h0_m).any (by first | omega | (simp; done) | decide)) rfl ?_
     rintro _ w77 ⟨A0_77, c0_77, rfl, h77⟩
     have K77 := H1.f1 h77
     have hL77_0 := (K77.o s0).len_le
     refine WH.next ((K77.rm s2).rm s0) <| WH.tk (fuel := 7) 9 rfl (by kernel_rfl) (by kernel_rfl) (by kernel_rfl) (fun _ hK => (Ev.field (q := ⟨g1, 0, none⟩) fa_26_0 rfl rfl)) rfl ((K77.rm s2).rm s0) ?_
     refine WH.all (fuel := 6) (rs := [5]) (by kernel_rfl) (by decide) ?_
     simp only [List.forall_mem_cons, List.not_mem_nil, false_implies, implies_true, and_true]
     refine ⟨_, rfl, ?_⟩
     refine WL.call rfl rfl rfl cl_48 (CloneChunk_ok _ (K77.a h1_m) (by first | omega | (simp; done) | decide)) rfl ?_
     rintro _ w78 ⟨A0_78, c0_78, rfl, h78⟩
     have K78 := K77.c1 h78
     have hL78_0 := (K78.o s0).len_le
     refine WH.next (((K78.rm s3).rm s1).rm s0) <| WH.all (fuel := 5) (rs := [8]) (by kernel_rfl) (by decide) ?_
     simp only [List.forall_mem_cons, List.not_mem_nil, false_implies, implies_true, and_true]
     refine ⟨_, rfl, ?_⟩
     refine WL.call rfl rfl rfl cl_61 (CloneSess_ok _ (K78.a h2_m).any (by first | omega | (simp; done) | decide)) rfl ?_
     rintro _ w79 ⟨A0_79, c0_79, rfl, h79⟩
     have K79 := K78.f1 h79
     have hL79_0 := (K79.o s0).len_le
     refine WH.next ((((K79.rm s4).rm s2).rm s1).rm s0) <| WH.all (fuel := 4) (rs := [10]) (by kernel_rfl) (by decide) ?_
     simp only [List.forall_mem_cons, List.not_mem_nil, false_implies, implies_true, and_true]
     refine ⟨_, rfl, ?_⟩
     refine stc rfl rfl rfl sz_22 K79 s4 rfl fun w80 K80 => ?_
     refine WH.next ((((K80.rm s3).rm s2).rm s1).rm s0) <| WH.tk (fuel := 3) 11 rfl (by kernel_rfl) (by kernel_rfl) (by kernel_rfl) (fun _ hK => (Ev.field (q := ⟨g1, 1, none⟩) fa_26_1 rfl rfl)) rfl ((((K80.rm s3).rm s2).rm s1).rm s0) ?_
     refine WH.all (fuel := 2) (rs := [12]) (by kernel_rfl) (by decide) ?_
     simp only [List.forall_mem_cons, List.not_mem_nil, false_implies, implies_true, and_true]
     refine ⟨_, rfl, ?_⟩
     refine stc rfl rfl rfl sz_23 K80 s0 rfl fun w81 K81 => ?_
     refine WH.next ((((K81.rm s3).rm s2).rm s1).rm s0) <| WH.tk (fuel := 1) 13 rfl (by kernel_rfl) (by kernel_rfl) (by kernel_rfl) (fun _ hK => (Ev.field (q := ⟨g1, 2, none⟩) fa_26_2 rfl rfl)) rfl ((((K81.rm s3).rm s2).rm s1).rm s0) ?_
     refine WH.all (fuel := 0) (rs := [14]) (by kernel_rfl) (by decide) ?_
     simp only [List.forall_mem_cons, List.not_mem_nil, false_implies, implies_true, and_true]
     refine ⟨_, rfl, ?_⟩
     refine stc rfl rfl rfl sz_24 K81 s0 rfl fun w82 K82 => ?_
     refine WH.next ((((K82.rm s3).rm s2).rm s1).rm s0) ?_
     exact WH.dn ⟨A0_79, c0_79, A0_78, c0_78, A0_77, c0_77, rfl, K82⟩ rfl (by kernel_rfl)
   ·
    refine ⟨_, rfl, ?_⟩
    refine ev (Ev.loadBoxCell na_23 rfl (H1.x s1) rfl) <| WH.next (H1.rm s1) <| WH.all (fuel := 9) (rs := [1]) (by kernel_rfl) (by decide) ?_
    simp only [List.forall_mem_cons, List.not_mem_nil, false_implies, implies_true, and_true]
    refine ⟨_, rfl, ?_⟩
    refine ev (Ev.loadBoxCell na_22 rfl (H1.x s1) rfl) <| WH.next (H1.rm s1) <| WH.all (fuel := 8) (rs := [2]) (by kernel_rfl) (by decide) ?_
    simp only [List.forall_mem_cons, List.not_mem_nil, false_implies, implies_true, and_true]
    refine ⟨_, rfl, ?_⟩
    refine WL.call rfl rfl rfl cl_60 (CloneNode_ok _ (H1.a h0_m).any (by first | omega | (simp; done) | decide)) rfl ?_
    rintro _ w83 ⟨A0_83, c0_83, rfl, h83⟩
    have K83 := H1.f1 h83
    have hL83_0 := (K83.o s0).len_le
    refine WH.next ((K83.rm s2).rm s0) <| WH.tk (fuel := 7) 9 rfl (by kernel_rfl) (by kernel_rfl) (by kernel_rfl) (fun _ hK => (Ev.field (q := ⟨g1, 0, none⟩) fa_26_0 rfl rfl)) rfl ((K83.rm s2).rm s0) ?_
    refine WH.all (fuel := 6) (rs := [5]) (by kernel_rfl) (by decide) ?_
    simp only [List.forall_mem_cons, List.not_mem_nil, false_implies, implies_true, and_true]
    refine ⟨_, rfl, ?_⟩
    refine WL.call rfl rfl rfl cl_48 (CloneChunk_ok _ (K83.a h1_m) (by first | omega | (simp; done) | decide)) rfl ?_
    rintro _ w84 ⟨A0_84, c0_84, rfl, h84⟩
    have K84 := K83.c1 h84
    have hL84_0 := (K84.o s0).len_le
    refine WH.next (((K84.rm s3).rm s1).rm s0) <| WH.all (fuel := 5) (rs := [8]) (by kernel_rfl) (by decide) ?_
    simp only [List.forall_mem_cons, List.not_mem_nil, false_implies, implies_true, and_true]
    refine ⟨_, rfl, ?_⟩
    refine WL.call rfl rfl rfl cl_61 (CloneSess_ok _ (K84.a h2_m).any (by first | omega | (simp; done) | decide)) rfl ?_
    rintro _ w85 ⟨A0_85, c0_85, rfl, h85⟩
    have K85 := K84.f1 h85
    have hL85_0 := (K85.o s0).len_le
    refine WH.next ((((K85.rm s4).rm s2).rm s1).rm s0) <| WH.all (fuel := 4) (rs := [10]) (by kernel_rfl) (by decide) ?_
    simp only [List.forall_mem_cons, List.not_mem_nil, false_implies, implies_true, and_true]
    refine ⟨_, rfl, ?_⟩
    refine stc rfl rfl rfl sz_22 K85 s4 rfl fun w86 K86 => ?_
    refine WH.next ((((K86.rm s3).rm s2).rm s1).rm s0) <| WH.tk (fuel := 3) 11 rfl (by kernel_rfl) (by kernel_rfl) (by kernel_rfl) (fun _ hK => (Ev.field (q := ⟨g1, 1, none⟩) fa_26_1 rfl rfl)) rfl ((((K86.rm s3).rm s2).rm s1).rm s0) ?_
    refine WH.all (fuel := 2) (rs := [12]) (by kernel_rfl) (by decide) ?_
    simp only [List.forall_mem_cons, List.not_mem_nil, false_implies, implies_true, and_true]
    refine ⟨_, rfl, ?_⟩
    refine stc rfl rfl rfl sz_23 K86 s0 rfl fun w87 K87 => ?_
    refine WH.next ((((K87.rm s3).rm s2).rm s1).rm s0) <| WH.tk (fuel := 1) 13 rfl (by kernel_rfl) (by kernel_rfl) (by kernel_rfl) (fun _ hK => (Ev.field (q := ⟨g1, 2, none⟩) fa_26_2 rfl rfl)) rfl ((((K87.rm s3).rm s2).rm s1).rm s0) ?_
    refine WH.all (fuel := 0) (rs := [14]) (by kernel_rfl) (by decide) ?_
    simp only [List.forall_mem_cons, List.not_mem_nil, false_implies, implies_true, and_true]
    refine ⟨_, rfl, ?_⟩
    refine stc rfl rfl rfl sz_24 K87 s0 rfl fun w88 K88 => ?_
    refine WH.next ((((K88.rm s3).rm s2).rm s1).rm s0) ?_
    exact WH.dn ⟨A0_85, c0_85, A0_84, c0_84, A0_83, c0_83, rfl, K88⟩ rfl (by kernel_rfl)
 rintro _ w89 ⟨Aj1, cj1, Aj2, cj2, Aj3, cj3, rfl, K89⟩
 refine WP.seq ?_
 obtain ⟨ks0, hks0, HK1⟩ := Hp.toK K89 s2
 have HK2 := HK1.rows0 tInt 3
 have hkl0 : ks0.length = m.Chunks.length := by rw [← hks0, List.length_map]
 rw [← hkl0] at HK2
 refine rg <| ev (Ev.field (q := ⟨g1, 1, none⟩) fa_26_1 rfl rfl) <| ev (Ev.loadBoxCell na_23 rfl (HK2.x s3) rfl) <| ev (Ev.len Tryz.underlying23 rfl) <| mv rfl ?_
 refine dn <| WP.block ?_
 have hq1 : (0 : Int) = ((0 : Nat) : Int) := by simp
 refine WP.re (t := 20) rfl (congrArg (Value.int .i64) hq1) ?_
 have hq2 : [] = ((ks0.take 0).map kRow) := by rfl
 rw [hq2] at HK2
 refine WP.lp (fun mJ lJ wJ => ∃ (k : Nat) (ks : List KChunk), lJ = [(1, .pointer (some ⟨g1, 0, none⟩)), (2, .pointer (some ⟨g2, 0, none⟩)), (18, .slice Aj2 ks.length cj2), (19, .int .i64 ((ks0.length : Nat) : Int)), (20, .int .i64 ((k : Nat) : Int))] ∧ mJ = ks0.length - k ∧ k ≤ ks0.length ∧ (ks.length = ks0.length) ∧ (ks.map KChunk.c = m.Chunks) ∧ (∀ j, k ≤ j → ks[j]? = ks0[j]?) ∧ Hp w S0 wJ [rOwn tK 40 Aj2 cj2 ks, rRows tInt 3 ((ks.take k).map kRow), rIns tInt (ks0.map kRow), rBx g1 26 [.slice Aj3 m.Nodes.length cj3, .slice Aj2 ks0.length cj2, .slice Aj1 m.Sessions.length cj1], rOwn tSession 84 Aj1 cj1 m.Sessions, rOwn tNode 31 Aj3 cj3 m.Nodes, rBx g2 26 [.slice none 0 0, .slice none 0 0, .slice none 0 0]]) ⟨0, ks0, rfl, rfl, Nat.zero_le _, by rfl, by exact hks0, by intro j _; rfl, ((HK2.sel s0).sel s1)⟩ rfl ?_
 rintro _ _ w90 ⟨k, ks, rfl, rfl, hk, hkn, hka, hkb, K90⟩
 refine rg <| ev (Ev.lss rfl rfl) <| dn ?_
 refine WP.cond rfl (fun hc21 => ?_) (fun hc21 => ?_)
 ·
  replace hc21 := of_decide_eq_true hc21
  refine WP.skip (Pst.norm ?_)
  refine WP.seq <| WP.block <| rg <| mv rfl ?_
  obtain ⟨x1, hx1⟩ := get_some (xs := ks) (i := k) (by omega)
  refine ev (Ev.index (i := k) Tryz.underlying23 sz_40 rfl rfl rfl (lt_of_get hx1) ((K90.o s0).some_ hx1)) <| ev (Ev.loadRow ag_40 rfl rfl ((K90.o s0).flat_row hx1)) ?_
  refine al (cs := [.int .i64 0, .int .i64 0, .int .u32 0, .slice none 0 0]) zero_40 rfl K90 fun g3 w91 K91 => ?_
  refine as_ rfl ?_
  refine stw (ds := [.int .i64 x1.c.ID, .int .i64 x1.c.Version, .int .u32 x1.c.Sum, .slice x1.B x1.c.Holders.length x1.d]) rfl rfl rfl sz_40 K91 s0 rfl rfl fun w92 K92 => ?_
  refine dn ?_
  have hin := K92.inAt s3 (List.mem_map.2 ⟨x1, mem_of_get (by rw [← hkb k (Nat.le_refl _)]; exact hx1), rfl⟩ : (x1.B, x1.d, x1.c.Holders) ∈ _)
  have hHl : x1.c.Holders.length ≤ 100000 := hh x1.c (by rw [← hka]; exact List.mem_map.2 ⟨x1, mem_of_get hx1, rfl⟩)
  have H2 := K92.push hin
  refine WP.held_end (fun wS => Hp w S0 wS [rSl tInt x1.B x1.d x1.c.Holders, rBx g3 40 [.int .i64 x1.c.ID, .int .i64 x1.c.Version, .int .u32 x1.c.Sum, .slice x1.B x1.c.Holders.length x1.d], rRows tInt 3 ((ks.take k).map kRow), rIns tInt (ks0.map kRow), rBx g1 26 [.slice Aj3 m.Nodes.length cj3, .slice Aj2 ks0.length cj2, .slice Aj1 m.Sessions.length cj1], rOwn tSession 84 Aj1 cj1 m.Sessions, rOwn tNode 31 Aj3 cj3 m.Nodes, rBx g2 26 [.slice none 0 0, .slice none 0 0, .slice none 0 0]]) (fun lJ wJ => ∃ (Aj4 : Option Addr) (cj4 : Nat), lJ = [(1, .pointer (some ⟨g1, 0, none⟩)), (2, .pointer (some ⟨g2, 0, none⟩)), (18, .slice Aj2 ((ks.set k ({ x1 with B := Aj4, d := cj4 } : KChunk)).length) cj2), (19, .int .i64 ((ks0.length : Nat) : Int)), (20, .int .i64 ((k : Nat) : Int))] ∧ Hp w S0 wJ [rOwn tK 40 Aj2 cj2 (ks.set k ({ x1 with B := Aj4, d := cj4 } : KChunk)), rOwn tInt 3 Aj4 cj4 x1.c.Holders, rSl tInt x1.B x1.d x1.c.Holders, rBx g3 40 [.int .i64 x1.c.ID, .int .i64 x1.c.Version, .int .u32 x1.c.Sum, .slice x1.B x1.c.Holders.length x1.d], rRows tInt 3 ((ks.take k).map kRow), rIns tInt (ks0.map kRow), rBx g1 26 [.slice Aj3 m.Nodes.length cj3, .slice Aj2 ks0.length cj2, .slice Aj1 m.Sessions.length cj1], rOwn tSession 84 Aj1 cj1 m.Sessions, rOwn tNode 31 Aj3 cj3 m.Nodes, rBx g2 26 [.slice none 0 0, .slice none 0 0, .slice none 0 0]]) (by kernel_rfl) ?_ ?_
  ·
   have H3 := H2.grow (Ext.refl w92).drew
   refine WH.tk (fuel := 8) 0 rfl (by kernel_rfl) (by kernel_rfl) (by kernel_rfl) (fun _ hK => (Ev.field (q := ⟨g1, 1, none⟩) fa_26_1 rfl rfl)) rfl (H3.rm s2) <| WH.tk (fuel := 7) 1 rfl (by kernel_rfl) (by kernel_rfl) (by kernel_rfl) (fun _ hK => (show Ev _ _ _ _ _ (.slice Aj2 ks.length cj2) from by rw [hkn]; exact (Ev.loadBoxCell na_23 rfl (hK.x s4) rfl))) rfl (H3.rm s2) ?_
   refine WH.tk (fuel := 6) 2 rfl (by kernel_rfl) (by kernel_rfl) (by kernel_rfl) (fun _ hK => (Ev.move rfl)) rfl (H3.rm s2) <| WH.tk (fuel := 5) 3 rfl (by kernel_rfl) (by kernel_rfl) (by kernel_rfl) (fun _ hK => (Ev.field (q := ⟨g3, 3, none⟩) fa_40_3 rfl rfl)) rfl (H3.rm s2) ?_
   refine WH.tk (fuel := 4) 4 rfl (by kernel_rfl) (by kernel_rfl) (by kernel_rfl) (fun _ hK => (Ev.loadBoxCell na_32 rfl (hK.x s1) rfl)) rfl (H3.rm s2) <| WH.all (fuel := 3) (rs := [5]) (by kernel_rfl) (by decide) ?_
   simp only [List.forall_mem_cons, List.not_mem_nil, false_implies, implies_true, and_true]
   refine ⟨_, rfl, ?_⟩
   refine WL.call rfl rfl rfl cl_49 (CloneInt_ok _ (H3.s s0).any (by first | omega | (simp; done) | decide)) rfl ?_
   rintro _ w93 ⟨A0_93, c0_93, rfl, h93⟩
   have K93 := H3.f1 h93
   have hL93_0 := (K93.o s0).len_le
   refine WH.next ((K93.rm s3).rm s0) <| WH.all (fuel := 2) (rs := [6]) (by kernel_rfl) (by decide) ?_
   simp only [List.forall_mem_cons, List.not_mem_nil, false_implies, implies_true, and_true]
   refine ⟨_, rfl, ?_⟩
   refine ev (Ev.index (i := k) Tryz.underlying23 sz_40 rfl rfl rfl (lt_of_get hx1) ((K93.o s3).some_ hx1)) <| WH.next ((K93.rm s3).rm s0) <| WH.tk (fuel := 1) 7 rfl (by kernel_rfl) (by kernel_rfl) (by kernel_rfl) (fun _ hK => (Ev.field fa_40_3 rfl (add_of_add _ _ _))) rfl ((K93.rm s3).rm s0) ?_
   refine WH.all (fuel := 0) (rs := [8]) (by kernel_rfl) (by decide) ?_
   simp only [List.forall_mem_cons, List.not_mem_nil, false_implies, implies_true, and_true]
   refine ⟨_, rfl, ?_⟩
   refine se (i := k) (f := 3) (x := x1) (x' := ({ x1 with B := A0_93, d := c0_93 } : KChunk)) (ds := [.slice A0_93 x1.c.Holders.length c0_93]) K93 s3 rfl rfl rfl hx1 rfl sz_32 (Nat.le_of_ble_eq_true rfl) rfl (fun _ _ _ h => by have h' : _ = _ := h; subst h'; rfl) fun w94 K94 => ?_
   have hl1 : (ks.set k ({ x1 with B := A0_93, d := c0_93 } : KChunk)).length = ks.length := List.length_set ..
   refine WL.re (t := 18) (u := .slice Aj2 ks.length cj2) (v := .slice Aj2 ((ks.set k ({ x1 with B := A0_93, d := c0_93 } : KChunk)).length) cj2) rfl (by rw [hl1]) ?_
   refine WL.re (t := 26) (u := .slice Aj2 ks.length cj2) (v := .slice Aj2 ((ks.set k ({ x1 with B := A0_93, d := c0_93 } : KChunk)).length) cj2) rfl (by rw [hl1]) ?_
   have hx2 : (ks.set k ({ x1 with B := A0_93, d := c0_93 } : KChunk))[k]? = some ({ x1 with B := A0_93, d := c0_93 } : KChunk) := List.getElem?_set_self (lt_of_get hx1)
   refine WH.next ((K94.rm s1).rm s0) ?_
   exact WH.dn ⟨A0_93, c0_93, rfl, K94⟩ rfl (by kernel_rfl)
  rintro _ w95 ⟨Aj4, cj4, rfl, K95⟩
  refine Pst.blk_norm (Pst.norm ?_)
  have H4 := K95.rowsPush s1 s3
  refine rge <| ev (Ev.add rfl rfl (I64.mk (by omega) (by omega))) <| mv rfl <| dne ?_
  have hq3 : (((k + 1 : Nat) : Int) : Int) = (((k + 1) : Nat) : Int) := by simp
  refine Pst.re (t := 20) rfl (congrArg (Value.int .i64) hq3) ?_
  have hq4 : ((ks.take k).map kRow) ++ [(Aj4, cj4, x1.c.Holders)] = (((ks.set k ({ x1 with B := Aj4, d := cj4 } : KChunk)).take (k + 1)).map kRow) := by rw [kset_take hx1]; rfl
  rw [hq4] at H4
  exact Pst.ag ⟨(k + 1), (ks.set k ({ x1 with B := Aj4, d := cj4 } : KChunk)), rfl, rfl, by omega, by rw [List.length_set]; exact hkn, by refine (kset_map hx1 ?_).trans hka; rfl, by intro j hj; rw [List.getElem?_set_ne (by omega)]; exact hkb j (by omega), ((((H4.rm s3).rm s2).sel s0).sel s1)⟩ rfl (by omega)
 replace hc21 := of_decide_eq_false hc21
 refine WP.exit (Pst.then_exit (Pst.then_exit (Pst.blk_eq (Pst.norm ?_))))
 have hfin : ks.take k = ks := List.take_of_length_le (by omega)
 rw [hfin] at K90
 have H5 := K90.rowsFz s1
 have H6 := H5.ofK s1 s0
 rw [hka, hkl0] at H6
 refine rg <| ev (Ev.loadBox ag_26 rfl rfl (H6.x s2)) ?_
 refine stw (ds := [.slice Aj3 m.Nodes.length cj3, .slice Aj2 m.Chunks.length cj2, .slice Aj1 m.Sessions.length cj1]) rfl rfl rfl sz_26 H6 s5 rfl rfl fun w96 K96 => ?_
 refine dn ?_
 refine WP.ret (Pst.retC rfl ⟨_, _, rfl, ⟨_, rfl, loads_box (cs := [.slice Aj3 m.Nodes.length cj3, .slice Aj2 m.Chunks.length cj2, .slice Aj1 m.Sessions.length cj1]) ag_26 rfl (K96.x s0)⟩, rfl⟩ ?_)
 have hq5 : ((⟨m.Nodes, m.Chunks, m.Sessions⟩ : AMeta) : AMeta) = m := by first | with_reducible rfl | (simp; done) | omega
 have H7 := K96.fz s5
 have H8 := H7.fz s2
 have H9 := H8.fz s5
 exact ⟨Aj3, cj3, Aj2, cj2, Aj1, cj1, rfl, ((((((H9.rm s5).rm s4).rm s3).sel s0).sel s1).sel s2)⟩

end Go.Proofs.YtldldcafklophaaGreat
