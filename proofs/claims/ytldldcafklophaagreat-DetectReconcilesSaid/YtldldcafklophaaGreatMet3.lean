/- Contracts of functions: what each call hands back, and that it leaves all that was there as it was. -/
import Derived.Test.YtldldcafklophaaGreatMet2
set_option maxRecDepth 4000
set_option linter.all false
namespace Go.Proofs.YtldldcafklophaaGreat
open Go.RowKit

theorem zero_26 : ∀ w, (zeroValue 26).run Tryz.prog w = .ok (.agg #[.slice none 0 0, .slice none 0 0, .slice none 0 0]) w := fun _ => by kernel_rfl
theorem sz_26 : Size Tryz.prog 26 3 := fun _ => by kernel_rfl
theorem ag_26 : Agg Tryz.prog 26 3 := ⟨fun _ => by kernel_rfl, sz_26⟩
theorem bl_108_0A (a0_0 : Option Addr) (a0_0n a0_0c : Nat) (a0_1 : Option Addr) (a0_1n a0_1c : Nat) (a0_2 : Option Addr) (a0_2n a0_2c : Nat) : Tryz.prog.built 108 [(0, .agg #[.slice a0_0 a0_0n a0_0c, .slice a0_1 a0_1n a0_1c, .slice a0_2 a0_2n a0_2c])] = some #[.slice a0_0 a0_0n a0_0c, .slice a0_1 a0_1n a0_1c, .slice a0_2 a0_2n a0_2c, .int .i64 0, .int .i64 0] := by kernel_rfl
theorem fa_58_2 : FieldAt Tryz.prog 58 2 2 := fun _ _ => by kernel_rfl
theorem cl_62 : Callable Tryz.prog 62 := fun _ _ => by kernel_rfl
theorem cl_70 : Callable Tryz.prog 70 := fun _ _ => by kernel_rfl
theorem sz_106 : Size Tryz.prog 106 2 := fun _ => by kernel_rfl
theorem ag_106 : Agg Tryz.prog 106 2 := ⟨fun _ => by kernel_rfl, sz_106⟩
theorem cl_63 : Callable Tryz.prog 63 := fun _ _ => by kernel_rfl
theorem cl_71 : Callable Tryz.prog 71 := fun _ _ => by kernel_rfl
theorem cl_74 : Callable Tryz.prog 74 := fun _ _ => by kernel_rfl
theorem cl_76 : Callable Tryz.prog 76 := fun _ _ => by kernel_rfl
theorem cl_79 : Callable Tryz.prog 79 := fun _ _ => by kernel_rfl
theorem cl_81 : Callable Tryz.prog 81 := fun _ _ => by kernel_rfl
theorem cl_84 : Callable Tryz.prog 84 := fun _ _ => by kernel_rfl
theorem cl_86 : Callable Tryz.prog 86 := fun _ _ => by kernel_rfl
theorem zero_109 : ∀ w, (zeroValue 109).run Tryz.prog w = .ok (.nilFunc) w := fun _ => by kernel_rfl
def doX (m : AMeta) (c : ACmd) : List ANode × List AChunk × Int × Int :=
  if c.Kind = 0 then ((m.Nodes), (m.Chunks), (0), (0)) else if c.Kind = 1 then ((if (nAddL m.Nodes ⟨c.A, c.B, c.C, 0⟩).2 = 0 then (nAddL m.Nodes ⟨c.A, c.B, c.C, 0⟩).1 else m.Nodes), (m.Chunks), ((nAddL m.Nodes ⟨c.A, c.B, c.C, 0⟩).2), (0)) else if c.Kind = 2 then ((if c.B = 2 ∧ (ofL m.Chunks c.A).length > 0 then m.Nodes else if (nSetL m.Nodes c.A c.B).2 = 0 then (nSetL m.Nodes c.A c.B).1 else m.Nodes), (m.Chunks), (if c.B = 2 ∧ (ofL m.Chunks c.A).length > 0 then 8 else (nSetL m.Nodes c.A c.B).2), (0)) else if c.Kind = 3 then ((m.Nodes), ((wrL createL m.Chunks c).1), ((wrL createL m.Chunks c).2.1), ((wrL createL m.Chunks c).2.2)) else if c.Kind = 4 then ((m.Nodes), ((wrL (fun (l : List AChunk) (id sum : Int) => chgL l id (writeF sum)) m.Chunks c).1), ((wrL (fun (l : List AChunk) (id sum : Int) => chgL l id (writeF sum)) m.Chunks c).2.1), ((wrL (fun (l : List AChunk) (id sum : Int) => chgL l id (writeF sum)) m.Chunks c).2.2)) else if c.Kind = 5 then ((m.Nodes), (if standsL m.Nodes c.B = true then (if (claimL m.Chunks c.A c.B c.C).2 = 0 then (claimL m.Chunks c.A c.B c.C).1 else m.Chunks) else m.Chunks), (if standsL m.Nodes c.B = true then (claimL m.Chunks c.A c.B c.C).2 else 5), (0)) else if c.Kind = 6 then ((m.Nodes), (if (chgL m.Chunks c.A (unclaimF c.B)).2 = 0 then (chgL m.Chunks c.A (unclaimF c.B)).1 else m.Chunks), ((chgL m.Chunks c.A (unclaimF c.B)).2), (0)) else if c.Kind = 7 then ((m.Nodes), (if (forgetL m.Chunks c.A).2 = 0 then (forgetL m.Chunks c.A).1 else m.Chunks), ((forgetL m.Chunks c.A).2), (0)) else (m.Nodes, m.Chunks, 1, 0)
def doesM (m : AMeta) (c : ACmd) : AMeta × Int := (⟨(doX m c).1, (doX m c).2.1, m.Sessions⟩, numL (doX m c).2.2.1 (doX m c).2.2.2)
theorem doX_0 {m : AMeta} {c : ACmd} (h : c.Kind = 0) : doX m c = ((m.Nodes), (m.Chunks), (0), (0)) := by unfold doX; rw [h]; rfl
theorem doX_1 {m : AMeta} {c : ACmd} (h : c.Kind = 1) : doX m c = ((if (nAddL m.Nodes ⟨c.A, c.B, c.C, 0⟩).2 = 0 then (nAddL m.Nodes ⟨c.A, c.B, c.C, 0⟩).1 else m.Nodes), (m.Chunks), ((nAddL m.Nodes ⟨c.A, c.B, c.C, 0⟩).2), (0)) := by unfold doX; rw [h]; rfl
theorem doX_2 {m : AMeta} {c : ACmd} (h : c.Kind = 2) : doX m c = ((if c.B = 2 ∧ (ofL m.Chunks c.A).length > 0 then m.Nodes else if (nSetL m.Nodes c.A c.B).2 = 0 then (nSetL m.Nodes c.A c.B).1 else m.Nodes), (m.Chunks), (if c.B = 2 ∧ (ofL m.Chunks c.A).length > 0 then 8 else (nSetL m.Nodes c.A c.B).2), (0)) := by unfold doX; rw [h]; rfl
theorem doX_3 {m : AMeta} {c : ACmd} (h : c.Kind = 3) : doX m c = ((m.Nodes), ((wrL createL m.Chunks c).1), ((wrL createL m.Chunks c).2.1), ((wrL createL m.Chunks c).2.2)) := by unfold doX; rw [h]; rfl
theorem doX_4 {m : AMeta} {c : ACmd} (h : c.Kind = 4) : doX m c = ((m.Nodes), ((wrL (fun (l : List AChunk) (id sum : Int) => chgL l id (writeF sum)) m.Chunks c).1), ((wrL (fun (l : List AChunk) (id sum : Int) => chgL l id (writeF sum)) m.Chunks c).2.1), ((wrL (fun (l : List AChunk) (id sum : Int) => chgL l id (writeF sum)) m.Chunks c).2.2)) := by unfold doX; rw [h]; rfl
theorem doX_5 {m : AMeta} {c : ACmd} (h : c.Kind = 5) : doX m c = ((m.Nodes), (if standsL m.Nodes c.B = true then (if (claimL m.Chunks c.A c.B c.C).2 = 0 then (claimL m.Chunks c.A c.B c.C).1 else m.Chunks) else m.Chunks), (if standsL m.Nodes c.B = true then (claimL m.Chunks c.A c.B c.C).2 else 5), (0)) := by unfold doX; rw [h]; rfl
theorem doX_6 {m : AMeta} {c : ACmd} (h : c.Kind = 6) : doX m c = ((m.Nodes), (if (chgL m.Chunks c.A (unclaimF c.B)).2 = 0 then (chgL m.Chunks c.A (unclaimF c.B)).1 else m.Chunks), ((chgL m.Chunks c.A (unclaimF c.B)).2), (0)) := by unfold doX; rw [h]; rfl
theorem doX_7 {m : AMeta} {c : ACmd} (h : c.Kind = 7) : doX m c = ((m.Nodes), (if (forgetL m.Chunks c.A).2 = 0 then (forgetL m.Chunks c.A).1 else m.Chunks), ((forgetL m.Chunks c.A).2), (0)) := by unfold doX; rw [h]; rfl
theorem doX_8 {m : AMeta} {c : ACmd} (h : c.Kind ≠ 0 ∧ c.Kind ≠ 1 ∧ c.Kind ≠ 2 ∧ c.Kind ≠ 3 ∧ c.Kind ≠ 4 ∧ c.Kind ≠ 5 ∧ c.Kind ≠ 6 ∧ c.Kind ≠ 7) : doX m c = (m.Nodes, m.Chunks, 1, 0) := by
  obtain ⟨k0, k1, k2, k3, k4, k5, k6, k7⟩ := h
  unfold doX; rw [if_neg k0, if_neg k1, if_neg k2, if_neg k3, if_neg k4, if_neg k5, if_neg k6, if_neg k7]
theorem kinds (k : Int) : k = 0 ∨ k = 1 ∨ k = 2 ∨ k = 3 ∨ k = 4 ∨ k = 5 ∨ k = 6 ∨ k = 7 ∨ (k ≠ 0 ∧ k ≠ 1 ∧ k ≠ 2 ∧ k ≠ 3 ∧ k ≠ 4 ∧ k ≠ 5 ∧ k ≠ 6 ∧ k ≠ 7) := by omega
theorem nAdd_e (l : List ANode) (n : ANode) : 0 ≤ (nAddL l n).2 ∧ (nAddL l n).2 ≤ 10 := by unfold nAddL; split <;> (try split) <;> simp
theorem nSet_e (l : List ANode) (id st : Int) : 0 ≤ (nSetL l id st).2 ∧ (nSetL l id st).2 ≤ 10 := by unfold nSetL; split <;> (try split) <;> (try split) <;> simp
theorem create_e (l : List AChunk) (id sum : Int) : 0 ≤ (createL l id sum).2 ∧ (createL l id sum).2 ≤ 10 := by unfold createL; split <;> (try split) <;> (try split) <;> simp
theorem forget_e (l : List AChunk) (id : Int) : 0 ≤ (forgetL l id).2 ∧ (forgetL l id).2 ≤ 10 := by unfold forgetL; split <;> simp
theorem chg_e (l : List AChunk) (id : Int) {f : AChunk → AChunk × Int} (hf : ∀ c, 0 ≤ (f c).2 ∧ (f c).2 ≤ 10) : 0 ≤ (chgL l id f).2 ∧ (chgL l id f).2 ≤ 10 := by
  rcases chg_cases l id f with ⟨_, h⟩ | ⟨_, _, h⟩ | ⟨_, _, n, _, _, h⟩
  · rw [h]; simp
  · rw [h]; exact hf _
  · rw [h]; simp
theorem write_e (sum : Int) (c : AChunk) : 0 ≤ (writeF sum c).2 ∧ (writeF sum c).2 ≤ 10 := by unfold writeF; split <;> simp
theorem claimF_e (n v : Int) (c : AChunk) : 0 ≤ (claimF n v c).2 ∧ (claimF n v c).2 ≤ 10 := by unfold claimF; split <;> (try split) <;> simp
theorem unclaim_e (n : Int) (c : AChunk) : 0 ≤ (unclaimF n c).2 ∧ (unclaimF n c).2 ≤ 10 := by unfold unclaimF; split <;> simp
theorem claim_e (l : List AChunk) (id n v : Int) : 0 ≤ (claimL l id n v).2 ∧ (claimL l id n v).2 ≤ 10 := by
  unfold claimL; split
  · simp
  · exact chg_e _ _ (claimF_e n v)
theorem err_0 (m : AMeta) (c : ACmd) : 0 ≤ (0 : Int) ∧ (0 : Int) ≤ 10 := by exact ⟨by decide, by decide⟩
theorem err_1 (m : AMeta) (c : ACmd) : 0 ≤ ((nAddL m.Nodes ⟨c.A, c.B, c.C, 0⟩).2 : Int) ∧ ((nAddL m.Nodes ⟨c.A, c.B, c.C, 0⟩).2 : Int) ≤ 10 := by exact nAdd_e _ _
theorem err_2 (m : AMeta) (c : ACmd) : 0 ≤ (if c.B = 2 ∧ (ofL m.Chunks c.A).length > 0 then 8 else (nSetL m.Nodes c.A c.B).2 : Int) ∧ (if c.B = 2 ∧ (ofL m.Chunks c.A).length > 0 then 8 else (nSetL m.Nodes c.A c.B).2 : Int) ≤ 10 := by split <;> first | exact nSet_e _ _ _ | simp
theorem err_3 (m : AMeta) (c : ACmd) : 0 ≤ ((wrL createL m.Chunks c).2.1 : Int) ∧ ((wrL createL m.Chunks c).2.1 : Int) ≤ 10 := by unfold wrL; split <;> first | exact create_e _ _ _ | simp
theorem err_4 (m : AMeta) (c : ACmd) : 0 ≤ ((wrL (fun (l : List AChunk) (id sum : Int) => chgL l id (writeF sum)) m.Chunks c).2.1 : Int) ∧ ((wrL (fun (l : List AChunk) (id sum : Int) => chgL l id (writeF sum)) m.Chunks c).2.1 : Int) ≤ 10 := by unfold wrL; split <;> first | exact chg_e _ _ (write_e _) | simp
theorem err_5 (m : AMeta) (c : ACmd) : 0 ≤ (if standsL m.Nodes c.B = true then (claimL m.Chunks c.A c.B c.C).2 else 5 : Int) ∧ (if standsL m.Nodes c.B = true then (claimL m.Chunks c.A c.B c.C).2 else 5 : Int) ≤ 10 := by split <;> first | exact claim_e _ _ _ _ | simp
theorem err_6 (m : AMeta) (c : ACmd) : 0 ≤ ((chgL m.Chunks c.A (unclaimF c.B)).2 : Int) ∧ ((chgL m.Chunks c.A (unclaimF c.B)).2 : Int) ≤ 10 := by exact chg_e _ _ (unclaim_e _)
theorem err_7 (m : AMeta) (c : ACmd) : 0 ≤ ((forgetL m.Chunks c.A).2 : Int) ∧ ((forgetL m.Chunks c.A).2 : Int) ≤ 10 := by exact forget_e _ _

theorem does_ok {S0 : Nat → Prop} (w : World) (m : AMeta) {B0_m : Option Addr} {d0_m : Nat} (h0_m : Sl tNode S0 w B0_m d0_m m.Nodes) {B1_m : Option Addr} {d1_m : Nat} (h1_m : Sl tChunk S0 w B1_m d1_m m.Chunks) {B2_m : Option Addr} {d2_m : Nat} (h2_m : Sl tSession S0 w B2_m d2_m m.Sessions) (c : ACmd) (hn : m.Nodes.length ≤ 100000) (hc : m.Chunks.length ≤ 100000) (hh : ∀ x ∈ m.Chunks, x.Holders.length ≤ 100000) :
    Rets Tryz.prog 43 #[.agg #[.slice B0_m m.Nodes.length d0_m, .slice B1_m m.Chunks.length d1_m, .slice B2_m m.Sessions.length d2_m], .agg #[.int .i64 c.Client, .int .i64 c.Seq, .int .i64 c.Kind, .int .i64 c.A, .int .i64 c.B, .int .i64 c.C]] w fun v w' => ∃ (B0_0 : Option Addr) (d0_0 : Nat) (B0_1 : Option Addr) (d0_1 : Nat) (B0_2 : Option Addr) (d0_2 : Nat), v = .tuple #[.agg #[.slice B0_0 ((((doesM m c).1).Nodes).length) d0_0, .slice B0_1 ((((doesM m c).1).Chunks).length) d0_1, .slice B0_2 ((((doesM m c).1).Sessions).length) d0_2], .int .i64 ((doesM m c).2)] ∧ Hp w S0 w' [rSl tNode B0_0 d0_0 (((doesM m c).1).Nodes), rSl tChunk B0_1 d0_1 (((doesM m c).1).Chunks), rSl tSession B0_2 d0_2 (((doesM m c).1).Sessions)] := by
 refine WP.enter Tryz.func43 rfl Tryz.ntmps43 rfl ?_
 have H0 := Hp.init w S0
 refine rg ?_
 refine bx (cs := [.slice B0_m m.Nodes.length d0_m, .slice B1_m m.Chunks.length d1_m, .slice B2_m m.Sessions.length d2_m]) rfl rfl H0 fun g1 w1 K1 => ?_
 refine bx (cs := [.int .i64 c.Client, .int .i64 c.Seq, .int .i64 c.Kind, .int .i64 c.A, .int .i64 c.B, .int .i64 c.C]) rfl rfl K1 fun g2 w2 K2 => ?_
 refine al (cs := [.slice none 0 0, .slice none 0 0, .slice none 0 0]) zero_26 rfl K2 fun g3 w3 K3 => ?_
 refine as_ rfl <| dn <| rg <| ev (Ev.loadBox ag_26 rfl rfl (K3.x s2)) <| ev (Ev.build (vs := [(0, .agg #[.slice B0_m m.Nodes.length d0_m, .slice B1_m m.Chunks.length d1_m, .slice B2_m m.Sessions.length d2_m])]) (cs := [.slice B0_m m.Nodes.length d0_m, .slice B1_m m.Chunks.length d1_m, .slice B2_m m.Sessions.length d2_m, .int .i64 0, .int .i64 0]) rfl (by apply bl_108_0A)) ?_
 refine bx (cs := [.slice B0_m m.Nodes.length d0_m, .slice B1_m m.Chunks.length d1_m, .slice B2_m m.Sessions.length d2_m, .int .i64 0, .int .i64 0]) rfl rfl K3 fun g4 w4 K4 => ?_
 refine as_ rfl <| dn <| WP.seq ?_
 rcases kinds c.Kind with hkd | hkd | hkd | hkd | hkd | hkd | hkd | hkd | hkd
 ·
  refine WP.held (fun wS => Hp w S0 wS [rBx g4 108 [.slice B0_m m.Nodes.length d0_m, .slice B1_m m.Chunks.length d1_m, .slice B2_m m.Sessions.length d2_m, .int .i64 0, .int .i64 0], rBx g3 26 [.slice none 0 0, .slice none 0 0, .slice none 0 0], rBx g2 58 [.int .i64 c.Client, .int .i64 c.Seq, .int .i64 c.Kind, .int .i64 c.A, .int .i64 c.B, .int .i64 c.C], rBx g1 26 [.slice B0_m m.Nodes.length d0_m, .slice B1_m m.Chunks.length d1_m, .slice B2_m m.Sessions.length d2_m]]) (fun lJ wJ => lJ = [(3, .pointer (some ⟨g2, 0, none⟩)), (4, .pointer (some ⟨g3, 0, none⟩)), (6, .pointer (some ⟨g4, 0, none⟩)), (7, .func (.func 70) #[] #[])] ∧ Hp w S0 wJ [rBx g4 108 [.slice B0_m m.Nodes.length d0_m, .slice B1_m m.Chunks.length d1_m, .slice B2_m m.Sessions.length d2_m, .int .i64 0, .int .i64 0], rBx g3 26 [.slice none 0 0, .slice none 0 0, .slice none 0 0], rBx g2 58 [.int .i64 c.Client, .int .i64 c.Seq, .int .i64 c.Kind, .int .i64 c.A, .int .i64 c.B, .int .i64 c.C], rBx g1 26 [.slice B0_m m.Nodes.length d0_m, .slice B1_m m.Chunks.length d1_m, .slice B2_m m.Sessions.length d2_m]]) (by kernel_rfl) ?_ ?_
  ·
   have H1 := K4.grow (Ext.refl w4).drew
   refine WH.tk (fuel := 4) 1 rfl (by kernel_rfl) (by kernel_rfl) (by kernel_rfl) (fun _ hK => (Ev.field (q := ⟨g2, 2, none⟩) fa_58_2 rfl rfl)) rfl H1 <| WH.tk (fuel := 3) 2 rfl (by kernel_rfl) (by kernel_rfl) (by kernel_rfl) (fun _ hK => (Ev.loadBoxCell na_3 rfl (hK.x s2) rfl)) rfl H1 ?_
   refine WH.all (fuel := 2) (rs := [0]) (by kernel_rfl) (by decide) ?_
   simp only [List.forall_mem_cons, List.not_mem_nil, false_implies, implies_true, and_true]
   refine ⟨_, rfl, ?_⟩
   refine WL.call rfl rfl rfl cl_62 (commands_ok (S0 := Any) _ ) rfl ?_
   rintro _ w5 ⟨g0_5, rfl, h5⟩
   have K5 := H1.f1 h5
   refine WH.next (K5.rm s0) <| WH.all (fuel := 1) (rs := [3]) (by kernel_rfl) (by decide) ?_
   simp only [List.forall_mem_cons, List.not_mem_nil, false_implies, implies_true, and_true]
   refine ⟨_, rfl, ?_⟩
   refine ev (Ev.look (i := 0) K5 s0 rfl rfl Tryz.underlying110 Tryz.underlying3 (by rw [hkd]; rfl)) <| WH.next (K5.rm s0) <| WH.tk (fuel := 0) 4 rfl (by kernel_rfl) (by kernel_rfl) (by kernel_rfl) (fun _ hK => (Ev.assign rfl)) rfl (K5.rm s0) ?_
   exact WH.dn ⟨rfl, (K5.rm s0)⟩ rfl (by kernel_rfl)
  rintro _ w6 ⟨rfl, K6⟩
  refine rg <| mv rfl <| ev (Ev.nefn Tryz.underlying109 rfl) <| dn ?_
  refine WP.cond_end rfl (fun _h => ?_) (fun _h => absurd _h (by decide))
  refine rge <| mv rfl <| mv rfl <| ev (Ev.loadBox ag_58 rfl rfl (K6.x s2)) ?_
  have H2 := K6.push (K6.a h0_m)
  have H3 := H2.push (H2.a h1_m)
  have H4 := H3.push (H3.a h2_m)
  refine WL.call rfl rfl rfl cl_70 (cmd1_ok ((((H4.sel s0).sel s1).sel s2).sel s3) hn hc hh) rfl ?_
  rintro _ w7 ⟨An7, cn7, Ac7, cc7, rfl, K7⟩
  refine dne <| Pst.norm ?_
  refine WP.held (fun wS => Hp w S0 wS [rBx g4 108 [.slice An7 ((m.Nodes).length) cn7, .slice Ac7 ((m.Chunks).length) cc7, .slice B2_m m.Sessions.length d2_m, .int .i64 (0), .int .i64 (0)], rSl tNode An7 cn7 (m.Nodes), rSl tChunk Ac7 cc7 (m.Chunks), rSl tSession B2_m d2_m m.Sessions, rBx g2 58 [.int .i64 c.Client, .int .i64 c.Seq, .int .i64 c.Kind, .int .i64 c.A, .int .i64 c.B, .int .i64 c.C], rBx g1 26 [.slice B0_m m.Nodes.length d0_m, .slice B1_m m.Chunks.length d1_m, .slice B2_m m.Sessions.length d2_m]]) (fun lJ wJ => lJ = [(4, .pointer (some ⟨g3, 0, none⟩)), (5, .int .i64 (numL (⟨(0), (0)⟩ : AAns).e (⟨(0), (0)⟩ : AAns).n))] ∧ Hp w S0 wJ [rBx g3 26 [.slice An7 ((m.Nodes).length) cn7, .slice Ac7 ((m.Chunks).length) cc7, .slice B2_m m.Sessions.length d2_m], rBx g4 108 [.slice An7 ((m.Nodes).length) cn7, .slice Ac7 ((m.Chunks).length) cc7, .slice B2_m m.Sessions.length d2_m, .int .i64 (0), .int .i64 (0)], rSl tNode An7 cn7 (m.Nodes), rSl tChunk Ac7 cc7 (m.Chunks), rSl tSession B2_m d2_m m.Sessions, rBx g2 58 [.int .i64 c.Client, .int .i64 c.Seq, .int .i64 c.Kind, .int .i64 c.A, .int .i64 c.B, .int .i64 c.C], rBx g1 26 [.slice B0_m m.Nodes.length d0_m, .slice B1_m m.Chunks.length d1_m, .slice B2_m m.Sessions.length d2_m]]) (by kernel_rfl) ?_ ?_
  ·
   have H5 := K7.grow (Ext.refl w7).drew
   refine WH.tk (fuel := 10) 0 rfl (by kernel_rfl) (by kernel_rfl) (by kernel_rfl) (fun _ hK => (Ev.move rfl)) rfl (H5.rm s4) <| WH.tk (fuel := 9) 1 rfl (by kernel_rfl) (by kernel_rfl) (by kernel_rfl) (fun _ hK => (Ev.nilCheck rfl)) rfl (H5.rm s4) ?_
   refine WH.tk (fuel := 8) 2 rfl (by kernel_rfl) (by kernel_rfl) (by kernel_rfl) (fun _ hK => (Ev.field (q := ⟨g4, 0, none⟩) fa_108_0 rfl rfl)) rfl (H5.rm s4) <| WH.tk (fuel := 7) 3 rfl (by kernel_rfl) (by kernel_rfl) (by kernel_rfl) (fun _ hK => (Ev.loadBoxPart (cs' := [.slice An7 ((m.Nodes).length) cn7, .slice Ac7 ((m.Chunks).length) cc7, .slice B2_m m.Sessions.length d2_m]) ag_26 rfl rfl (hK.x s0) rfl)) rfl (H5.rm s4) ?_
   refine WH.tk (fuel := 6) 4 rfl (by kernel_rfl) (by kernel_rfl) (by kernel_rfl) (fun _ hK => (Ev.move rfl)) rfl (H5.rm s4) <| WH.tk (fuel := 5) 5 rfl (by kernel_rfl) (by kernel_rfl) (by kernel_rfl) (fun _ hK => (Ev.nilCheck rfl)) rfl (H5.rm s4) ?_
   refine WH.tk (fuel := 4) 6 rfl (by kernel_rfl) (by kernel_rfl) (by kernel_rfl) (fun _ hK => (Ev.field (q := ⟨g4, 3, none⟩) fa_108_1 rfl rfl)) rfl (H5.rm s4) <| WH.tk (fuel := 3) 7 rfl (by kernel_rfl) (by kernel_rfl) (by kernel_rfl) (fun _ hK => (Ev.loadBoxPart (cs' := [.int .i64 (0), .int .i64 (0)]) ag_106 rfl rfl (hK.x s0) rfl)) rfl (H5.rm s4) ?_
   refine WH.all (fuel := 2) (rs := [8]) (by kernel_rfl) (by decide) ?_
   simp only [List.forall_mem_cons, List.not_mem_nil, false_implies, implies_true, and_true]
   refine ⟨_, rfl, ?_⟩
   refine WL.call rfl rfl rfl cl_63 (number_ok (S0 := Any) _ (⟨(0), (0)⟩ : AAns) (err_0 m c)) rfl ?_
   rintro _ w8 ⟨rfl, h8⟩
   have K8 := H5.c0 h8
   refine WH.next (K8.rm s4) <| WH.all (fuel := 1) (rs := [9]) (by kernel_rfl) (by decide) ?_
   simp only [List.forall_mem_cons, List.not_mem_nil, false_implies, implies_true, and_true]
   refine ⟨_, rfl, ?_⟩
   refine stw (ds := [.slice An7 ((m.Nodes).length) cn7, .slice Ac7 ((m.Chunks).length) cc7, .slice B2_m m.Sessions.length d2_m]) rfl rfl rfl sz_26 K8 s4 rfl rfl fun w9 K9 => ?_
   refine WH.next (K9.rm s0) <| WH.tk (fuel := 0) 10 rfl (by kernel_rfl) (by kernel_rfl) (by kernel_rfl) (fun _ hK => (Ev.assign rfl)) rfl (K9.rm s0) ?_
   exact WH.dn ⟨rfl, K9⟩ rfl (by kernel_rfl)
  rintro _ w10 ⟨rfl, K10⟩
  refine WP.ret (Pst.retC rfl ⟨_, _, rfl, ⟨_, rfl, loads_box (cs := [.slice An7 ((m.Nodes).length) cn7, .slice Ac7 ((m.Chunks).length) cc7, .slice B2_m m.Sessions.length d2_m]) ag_26 rfl (K10.x s0)⟩, ⟨_, _, rfl, rfl, rfl⟩⟩ ?_)
  have hd : doesM m c = (⟨m.Nodes, m.Chunks, m.Sessions⟩, numL (0) (0)) := by unfold doesM; rw [doX_0 hkd]
  rw [hd]
  exact ⟨An7, cn7, Ac7, cc7, B2_m, d2_m, rfl, ((((K10.rm s6).rm s5).rm s1).rm s0)⟩
 ·
  refine WP.held (fun wS => Hp w S0 wS [rBx g4 108 [.slice B0_m m.Nodes.length d0_m, .slice B1_m m.Chunks.length d1_m, .slice B2_m m.Sessions.length d2_m, .int .i64 0, .int .i64 0], rBx g3 26 [.slice none 0 0, .slice none 0 0, .slice none 0 0], rBx g2 58 [.int .i64 c.Client, .int .i64 c.Seq, .int .i64 c.Kind, .int .i64 c.A, .int .i64 c.B, .int .i64 c.C], rBx g1 26 [.slice B0_m m.Nodes.length d0_m, .slice B1_m m.Chunks.length d1_m, .slice B2_m m.Sessions.length d2_m]]) (fun lJ wJ => lJ = [(3, .pointer (some ⟨g2, 0, none⟩)), (4, .pointer (some ⟨g3, 0, none⟩)), (6, .pointer (some ⟨g4, 0, none⟩)), (7, .func (.func 71) #[] #[])] ∧ Hp w S0 wJ [rBx g4 108 [.slice B0_m m.Nodes.length d0_m, .slice B1_m m.Chunks.length d1_m, .slice B2_m m.Sessions.length d2_m, .int .i64 0, .int .i64 0], rBx g3 26 [.slice none 0 0, .slice none 0 0, .slice none 0 0], rBx g2 58 [.int .i64 c.Client, .int .i64 c.Seq, .int .i64 c.Kind, .int .i64 c.A, .int .i64 c.B, .int .i64 c.C], rBx g1 26 [.slice B0_m m.Nodes.length d0_m, .slice B1_m m.Chunks.length d1_m, .slice B2_m m.Sessions.length d2_m]]) (by kernel_rfl) ?_ ?_
  ·
   have H6 := K4.grow (Ext.refl w4).drew
   refine WH.tk (fuel := 4) 1 rfl (by kernel_rfl) (by kernel_rfl) (by kernel_rfl) (fun _ hK => (Ev.field (q := ⟨g2, 2, none⟩) fa_58_2 rfl rfl)) rfl H6 <| WH.tk (fuel := 3) 2 rfl (by kernel_rfl) (by kernel_rfl) (by kernel_rfl) (fun _ hK => (Ev.loadBoxCell na_3 rfl (hK.x s2) rfl)) rfl H6 ?_
   refine WH.all (fuel := 2) (rs := [0]) (by kernel_rfl) (by decide) ?_
   simp only [List.forall_mem_cons, List.not_mem_nil, false_implies, implies_true, and_true]
   refine ⟨_, rfl, ?_⟩
   refine WL.call rfl rfl rfl cl_62 (commands_ok (S0 := Any) _ ) rfl ?_
   rintro _ w11 ⟨g0_11, rfl, h11⟩
   have K11 := H6.f1 h11
   refine WH.next (K11.rm s0) <| WH.all (fuel := 1) (rs := [3]) (by kernel_rfl) (by decide) ?_
   simp only [List.forall_mem_cons, List.not_mem_nil, false_implies, implies_true, and_true]
   refine ⟨_, rfl, ?_⟩
   refine ev (Ev.look (i := 1) K11 s0 rfl rfl Tryz.underlying110 Tryz.underlying3 (by rw [hkd]; rfl)) <| WH.next (K11.rm s0) <| WH.tk (fuel := 0) 4 rfl (by kernel_rfl) (by kernel_rfl) (by kernel_rfl) (fun _ hK => (Ev.assign rfl)) rfl (K11.rm s0) ?_
   exact WH.dn ⟨rfl, (K11.rm s0)⟩ rfl (by kernel_rfl)
  rintro _ w12 ⟨rfl, K12⟩
  refine rg <| mv rfl <| ev (Ev.nefn Tryz.underlying109 rfl) <| dn ?_
  refine WP.cond_end rfl (fun _h => ?_) (fun _h => absurd _h (by decide))
  refine rge <| mv rfl <| mv rfl <| ev (Ev.loadBox ag_58 rfl rfl (K12.x s2)) ?_
  have H7 := K12.push (K12.a h0_m)
  have H8 := H7.push (H7.a h1_m)
  have H9 := H8.push (H8.a h2_m)
  refine WL.call rfl rfl rfl cl_71 (cmd2_ok ((((H9.sel s0).sel s1).sel s2).sel s3) hn hc hh) rfl ?_
  rintro _ w13 ⟨An13, cn13, Ac13, cc13, rfl, K13⟩
  refine dne <| Pst.norm ?_
  refine WP.held (fun wS => Hp w S0 wS [rBx g4 108 [.slice An13 ((if (nAddL m.Nodes ⟨c.A, c.B, c.C, 0⟩).2 = 0 then (nAddL m.Nodes ⟨c.A, c.B, c.C, 0⟩).1 else m.Nodes).length) cn13, .slice Ac13 ((m.Chunks).length) cc13, .slice B2_m m.Sessions.length d2_m, .int .i64 ((nAddL m.Nodes ⟨c.A, c.B, c.C, 0⟩).2), .int .i64 (0)], rSl tNode An13 cn13 (if (nAddL m.Nodes ⟨c.A, c.B, c.C, 0⟩).2 = 0 then (nAddL m.Nodes ⟨c.A, c.B, c.C, 0⟩).1 else m.Nodes), rSl tChunk Ac13 cc13 (m.Chunks), rSl tSession B2_m d2_m m.Sessions, rBx g2 58 [.int .i64 c.Client, .int .i64 c.Seq, .int .i64 c.Kind, .int .i64 c.A, .int .i64 c.B, .int .i64 c.C], rBx g1 26 [.slice B0_m m.Nodes.length d0_m, .slice B1_m m.Chunks.length d1_m, .slice B2_m m.Sessions.length d2_m]]) (fun lJ wJ => lJ = [(4, .pointer (some ⟨g3, 0, none⟩)), (5, .int .i64 (numL (⟨((nAddL m.Nodes ⟨c.A, c.B, c.C, 0⟩).2), (0)⟩ : AAns).e (⟨((nAddL m.Nodes ⟨c.A, c.B, c.C, 0⟩).2), (0)⟩ : AAns).n))] ∧ Hp w S0 wJ [rBx g3 26 [.slice An13 ((if (nAddL m.Nodes ⟨c.A, c.B, c.C, 0⟩).2 = 0 then (nAddL m.Nodes ⟨c.A, c.B, c.C, 0⟩).1 else m.Nodes).length) cn13, .slice Ac13 ((m.Chunks).length) cc13, .slice B2_m m.Sessions.length d2_m], rBx g4 108 [.slice An13 ((if (nAddL m.Nodes ⟨c.A, c.B, c.C, 0⟩).2 = 0 then (nAddL m.Nodes ⟨c.A, c.B, c.C, 0⟩).1 else m.Nodes).length) cn13, .slice Ac13 ((m.Chunks).length) cc13, .slice B2_m m.Sessions.length d2_m, .int .i64 ((nAddL m.Nodes ⟨c.A, c.B, c.C, 0⟩).2), .int .i64 (0)], rSl tNode An13 cn13 (if (nAddL m.Nodes ⟨c.A, c.B, c.C, 0⟩).2 = 0 then (nAddL m.Nodes ⟨c.A, c.B, c.C, 0⟩).1 else m.Nodes), rSl tChunk Ac13 cc13 (m.Chunks), rSl tSession B2_m d2_m m.Sessions, rBx g2 58 [.int .i64 c.Client, .int .i64 c.Seq, .int .i64 c.Kind, .int .i64 c.A, .int .i64 c.B, .int .i64 c.C], rBx g1 26 [.slice B0_m m.Nodes.length d0_m, .slice B1_m m.Chunks.length d1_m, .slice B2_m m.Sessions.length d2_m]]) (by kernel_rfl) ?_ ?_
  ·
   have H10 := K13.grow (Ext.refl w13).drew
   refine WH.tk (fuel := 10) 0 rfl (by kernel_rfl) (by kernel_rfl) (by kernel_rfl) (fun _ hK => (Ev.move rfl)) rfl (H10.rm s4) <| WH.tk (fuel := 9) 1 rfl (by kernel_rfl) (by kernel_rfl) (by kernel_rfl) (fun _ hK => (Ev.nilCheck rfl)) rfl (H10.rm s4) ?_
   refine WH.tk (fuel := 8) 2 rfl (by kernel_rfl) (by kernel_rfl) (by kernel_rfl) (fun _ hK => (Ev.field (q := ⟨g4, 0, none⟩) fa_108_0 rfl rfl)) rfl (H10.rm s4) ?_
   refine WH.tk (fuel := 7) 3 rfl (by kernel_rfl) (by kernel_rfl) (by kernel_rfl) (fun _ hK => (Ev.loadBoxPart (cs' := [.slice An13 ((if (nAddL m.Nodes ⟨c.A, c.B, c.C, 0⟩).2 = 0 then (nAddL m.Nodes ⟨c.A, c.B, c.C, 0⟩).1 else m.Nodes).length) cn13, .slice Ac13 ((m.Chunks).length) cc13, .slice B2_m m.Sessions.length d2_m]) ag_26 rfl rfl (hK.x s0) rfl)) rfl (H10.rm s4) ?_
   refine WH.tk (fuel := 6) 4 rfl (by kernel_rfl) (by kernel_rfl) (by kernel_rfl) (fun _ hK => (Ev.move rfl)) rfl (H10.rm s4) <| WH.tk (fuel := 5) 5 rfl (by kernel_rfl) (by kernel_rfl) (by kernel_rfl) (fun _ hK => (Ev.nilCheck rfl)) rfl (H10.rm s4) ?_
   refine WH.tk (fuel := 4) 6 rfl (by kernel_rfl) (by kernel_rfl) (by kernel_rfl) (fun _ hK => (Ev.field (q := ⟨g4, 3, none⟩) fa_108_1 rfl rfl)) rfl (H10.rm s4) ?_
   refine WH.tk (fuel := 3) 7 rfl (by kernel_rfl) (by kernel_rfl) (by kernel_rfl) (fun _ hK => (Ev.loadBoxPart (cs' := [.int .i64 ((nAddL m.Nodes ⟨c.A, c.B, c.C, 0⟩).2), .int .i64 (0)]) ag_106 rfl rfl (hK.x s0) rfl)) rfl (H10.rm s4) ?_
   refine WH.all (fuel := 2) (rs := [8]) (by kernel_rfl) (by decide) ?_
   simp only [List.forall_mem_cons, List.not_mem_nil, false_implies, implies_true, and_true]
   refine ⟨_, rfl, ?_⟩
   refine WL.call rfl rfl rfl cl_63 (number_ok (S0 := Any) _ (⟨((nAddL m.Nodes ⟨c.A, c.B, c.C, 0⟩).2), (0)⟩ : AAns) (err_1 m c)) rfl ?_
   rintro _ w14 ⟨rfl, h14⟩
   have K14 := H10.c0 h14
   refine WH.next (K14.rm s4) <| WH.all (fuel := 1) (rs := [9]) (by kernel_rfl) (by decide) ?_
   simp only [List.forall_mem_cons, List.not_mem_nil, false_implies, implies_true, and_true]
   refine ⟨_, rfl, ?_⟩
   refine stw (ds := [.slice An13 ((if (nAddL m.Nodes ⟨c.A, c.B, c.C, 0⟩).2 = 0 then (nAddL m.Nodes ⟨c.A, c.B, c.C, 0⟩).1 else m.Nodes).length) cn13, .slice Ac13 ((m.Chunks).length) cc13, .slice B2_m m.Sessions.length d2_m]) rfl rfl rfl sz_26 K14 s4 rfl rfl fun w15 K15 => ?_
   refine WH.next (K15.rm s0) <| WH.tk (fuel := 0) 10 rfl (by kernel_rfl) (by kernel_rfl) (by kernel_rfl) (fun _ hK => (Ev.assign rfl)) rfl (K15.rm s0) ?_
   exact WH.dn ⟨rfl, K15⟩ rfl (by kernel_rfl)
  rintro _ w16 ⟨rfl, K16⟩
  refine WP.ret (Pst.retC rfl ⟨_, _, rfl, ⟨_, rfl, loads_box (cs := [.slice An13 ((if (nAddL m.Nodes ⟨c.A, c.B, c.C, 0⟩).2 = 0 then (nAddL m.Nodes ⟨c.A, c.B, c.C, 0⟩).1 else m.Nodes).length) cn13, .slice Ac13 ((m.Chunks).length) cc13, .slice B2_m m.Sessions.length d2_m]) ag_26 rfl (K16.x s0)⟩, ⟨_, _, rfl, rfl, rfl⟩⟩ ?_)
  have hd : doesM m c = (⟨if (nAddL m.Nodes ⟨c.A, c.B, c.C, 0⟩).2 = 0 then (nAddL m.Nodes ⟨c.A, c.B, c.C, 0⟩).1 else m.Nodes, m.Chunks, m.Sessions⟩, numL ((nAddL m.Nodes ⟨c.A, c.B, c.C, 0⟩).2) (0)) := by unfold doesM; rw [doX_1 hkd]
  rw [hd]
  exact ⟨An13, cn13, Ac13, cc13, B2_m, d2_m, rfl, ((((K16.rm s6).rm s5).rm s1).rm s0)⟩
 ·
  refine WP.held (fun wS => Hp w S0 wS [rBx g4 108 [.slice B0_m m.Nodes.length d0_m, .slice B1_m m.Chunks.length d1_m, .slice B2_m m.Sessions.length d2_m, .int .i64 0, .int .i64 0], rBx g3 26 [.slice none 0 0, .slice none 0 0, .slice none 0 0], rBx g2 58 [.int .i64 c.Client, .int .i64 c.Seq, .int .i64 c.Kind, .int .i64 c.A, .int .i64 c.B, .int .i64 c.C], rBx g1 26 [.slice B0_m m.Nodes.length d0_m, .slice B1_m m.Chunks.length d1_m, .slice B2_m m.Sessions.length d2_m]]) (fun lJ wJ => lJ = [(3, .pointer (some ⟨g2, 0, none⟩)), (4, .pointer (some ⟨g3, 0, none⟩)), (6, .pointer (some ⟨g4, 0, none⟩)), (7, .func (.func 74) #[] #[])] ∧ Hp w S0 wJ [rBx g4 108 [.slice B0_m m.Nodes.length d0_m, .slice B1_m m.Chunks.length d1_m, .slice B2_m m.Sessions.length d2_m, .int .i64 0, .int .i64 0], rBx g3 26 [.slice none 0 0, .slice none 0 0, .slice none 0 0], rBx g2 58 [.int .i64 c.Client, .int .i64 c.Seq, .int .i64 c.Kind, .int .i64 c.A, .int .i64 c.B, .int .i64 c.C], rBx g1 26 [.slice B0_m m.Nodes.length d0_m, .slice B1_m m.Chunks.length d1_m, .slice B2_m m.Sessions.length d2_m]]) (by kernel_rfl) ?_ ?_
  ·
   have H11 := K4.grow (Ext.refl w4).drew
   refine WH.tk (fuel := 4) 1 rfl (by kernel_rfl) (by kernel_rfl) (by kernel_rfl) (fun _ hK => (Ev.field (q := ⟨g2, 2, none⟩) fa_58_2 rfl rfl)) rfl H11 <| WH.tk (fuel := 3) 2 rfl (by kernel_rfl) (by kernel_rfl) (by kernel_rfl) (fun _ hK => (Ev.loadBoxCell na_3 rfl (hK.x s2) rfl)) rfl H11 ?_
   refine WH.all (fuel := 2) (rs := [0]) (by kernel_rfl) (by decide) ?_
   simp only [List.forall_mem_cons, List.not_mem_nil, false_implies, implies_true, and_true]
   refine ⟨_, rfl, ?_⟩
   refine WL.call rfl rfl rfl cl_62 (commands_ok (S0 := Any) _ ) rfl ?_
   rintro _ w17 ⟨g0_17, rfl, h17⟩
   have K17 := H11.f1 h17
   refine WH.next (K17.rm s0) <| WH.all (fuel := 1) (rs := [3]) (by kernel_rfl) (by decide) ?_
   simp only [List.forall_mem_cons, List.not_mem_nil, false_implies, implies_true, and_true]
   refine ⟨_, rfl, ?_⟩
   refine ev (Ev.look (i := 2) K17 s0 rfl rfl Tryz.underlying110 Tryz.underlying3 (by rw [hkd]; rfl)) <| WH.next (K17.rm s0) <| WH.tk (fuel := 0) 4 rfl (by kernel_rfl) (by kernel_rfl) (by kernel_rfl) (fun _ hK => (Ev.assign rfl)) rfl (K17.rm s0) ?_
   exact WH.dn ⟨rfl, (K17.rm s0)⟩ rfl (by kernel_rfl)
  rintro _ w18 ⟨rfl, K18⟩
  refine rg <| mv rfl <| ev (Ev.nefn Tryz.underlying109 rfl) <| dn ?_
  refine WP.cond_end rfl (fun _h => ?_) (fun _h => absurd _h (by decide))
  refine rge <| mv rfl <| mv rfl <| ev (Ev.loadBox ag_58 rfl rfl (K18.x s2)) ?_
  have H12 := K18.push (K18.a h0_m)
  have H13 := H12.push (H12.a h1_m)
  have H14 := H13.push (H13.a h2_m)
  refine WL.call rfl rfl rfl cl_74 (cmd3_ok ((((H14.sel s0).sel s1).sel s2).sel s3) hn hc hh) rfl ?_
  rintro _ w19 ⟨An19, cn19, Ac19, cc19, rfl, K19⟩
  refine dne <| Pst.norm ?_
  refine WP.held (fun wS => Hp w S0 wS [rBx g4 108 [.slice An19 ((if c.B = 2 ∧ (ofL m.Chunks c.A).length > 0 then m.Nodes else if (nSetL m.Nodes c.A c.B).2 = 0 then (nSetL m.Nodes c.A c.B).1 else m.Nodes).length) cn19, .slice Ac19 ((m.Chunks).length) cc19, .slice B2_m m.Sessions.length d2_m, .int .i64 (if c.B = 2 ∧ (ofL m.Chunks c.A).length > 0 then 8 else (nSetL m.Nodes c.A c.B).2), .int .i64 (0)], rSl tNode An19 cn19 (if c.B = 2 ∧ (ofL m.Chunks c.A).length > 0 then m.Nodes else if (nSetL m.Nodes c.A c.B).2 = 0 then (nSetL m.Nodes c.A c.B).1 else m.Nodes), rSl tChunk Ac19 cc19 (m.Chunks), rSl tSession B2_m d2_m m.Sessions, rBx g2 58 [.int .i64 c.Client, .int .i64 c.Seq, .int .i64 c.Kind, .int .i64 c.A, .int .i64 c.B, .int .i64 c.C], rBx g1 26 [.slice B0_m m.Nodes.length d0_m, .slice B1_m m.Chunks.length d1_m, .slice B2_m m.Sessions.length d2_m]]) (fun lJ wJ => lJ = [(4, .pointer (some ⟨g3, 0, none⟩)), (5, .int .i64 (numL (⟨(if c.B = 2 ∧ (ofL m.Chunks c.A).length > 0 then 8 else (nSetL m.Nodes c.A c.B).2), (0)⟩ : AAns).e (⟨(if c.B = 2 ∧ (ofL m.Chunks c.A).length > 0 then 8 else (nSetL m.Nodes c.A c.B).2), (0)⟩ : AAns).n))] ∧ Hp w S0 wJ [rBx g3 26 [.slice An19 ((if c.B = 2 ∧ (ofL m.Chunks c.A).length > 0 then m.Nodes else if (nSetL m.Nodes c.A c.B).2 = 0 then (nSetL m.Nodes c.A c.B).1 else m.Nodes).length) cn19, .slice Ac19 ((m.Chunks).length) cc19, .slice B2_m m.Sessions.length d2_m], rBx g4 108 [.slice An19 ((if c.B = 2 ∧ (ofL m.Chunks c.A).length > 0 then m.Nodes else if (nSetL m.Nodes c.A c.B).2 = 0 then (nSetL m.Nodes c.A c.B).1 else m.Nodes).length) cn19, .slice Ac19 ((m.Chunks).length) cc19, .slice B2_m m.Sessions.length d2_m, .int .i64 (if c.B = 2 ∧ (ofL m.Chunks c.A).length > 0 then 8 else (nSetL m.Nodes c.A c.B).2), .int .i64 (0)], rSl tNode An19 cn19 (if c.B = 2 ∧ (ofL m.Chunks c.A).length > 0 then m.Nodes else if (nSetL m.Nodes c.A c.B).2 = 0 then (nSetL m.Nodes c.A c.B).1 else m.Nodes), rSl tChunk Ac19 cc19 (m.Chunks), rSl tSession B2_m d2_m m.Sessions, rBx g2 58 [.int .i64 c.Client, .int .i64 c.Seq, .int .i64 c.Kind, .int .i64 c.A, .int .i64 c.B, .int .i64 c.C], rBx g1 26 [.slice B0_m m.Nodes.length d0_m, .slice B1_m m.Chunks.length d1_m, .slice B2_m m.Sessions.length d2_m]]) (by kernel_rfl) ?_ ?_
  ·
   have H15 := K19.grow (Ext.refl w19).drew
   refine WH.tk (fuel := 10) 0 rfl (by kernel_rfl) (by kernel_rfl) (by kernel_rfl) (fun _ hK => (Ev.move rfl)) rfl (H15.rm s4) <| WH.tk (fuel := 9) 1 rfl (by kernel_rfl) (by kernel_rfl) (by kernel_rfl) (fun _ hK => (Ev.nilCheck rfl)) rfl (H15.rm s4) ?_
   refine WH.tk (fuel := 8) 2 rfl (by kernel_rfl) (by kernel_rfl) (by kernel_rfl) (fun _ hK => (Ev.field (q := ⟨g4, 0, none⟩) fa_108_0 rfl rfl)) rfl (H15.rm s4) ?_
   refine WH.tk (fuel := 7) 3 rfl (by kernel_rfl) (by kernel_rfl) (by kernel_rfl) (fun _ hK => (Ev.loadBoxPart (cs' := [.slice An19 ((if c.B = 2 ∧ (ofL m.Chunks c.A).length > 0 then m.Nodes else if (nSetL m.Nodes c.A c.B).2 = 0 then (nSetL m.Nodes c.A c.B).1 else m.Nodes).length) cn19, .slice Ac19 ((m.Chunks).length) cc19, .slice B2_m m.Sessions.length d2_m]) ag_26 rfl rfl (hK.x s0) rfl)) rfl (H15.rm s4) ?_
   refine WH.tk (fuel := 6) 4 rfl (by kernel_rfl) (by kernel_rfl) (by kernel_rfl) (fun _ hK => (Ev.move rfl)) rfl (H15.rm s4) <| WH.tk (fuel := 5) 5 rfl (by kernel_rfl) (by kernel_rfl) (by kernel_rfl) (fun _ hK => (Ev.nilCheck rfl)) rfl (H15.rm s4) ?_
   refine WH.tk (fuel := 4) 6 rfl (by kernel_rfl) (by kernel_rfl) (by kernel_rfl) (fun _ hK => (Ev.field (q := ⟨g4, 3, none⟩) fa_108_1 rfl rfl)) rfl (H15.rm s4) ?_
   refine WH.tk (fuel := 3) 7 rfl (by kernel_rfl) (by kernel_rfl) (by kernel_rfl) (fun _ hK => (Ev.loadBoxPart (cs' := [.int .i64 (if c.B = 2 ∧ (ofL m.Chunks c.A).length > 0 then 8 else (nSetL m.Nodes c.A c.B).2), .int .i64 (0)]) ag_106 rfl rfl (hK.x s0) rfl)) rfl (H15.rm s4) ?_
   refine WH.all (fuel := 2) (rs := [8]) (by kernel_rfl) (by decide) ?_
   simp only [List.forall_mem_cons, List.not_mem_nil, false_implies, implies_true, and_true]
   refine ⟨_, rfl, ?_⟩
   refine WL.call rfl rfl rfl cl_63 (number_ok (S0 := Any) _ (⟨(if c.B = 2 ∧ (ofL m.Chunks c.A).length > 0 then 8 else (nSetL m.Nodes c.A c.B).2), (0)⟩ : AAns) (err_2 m c)) rfl ?_
   rintro _ w20 ⟨rfl, h20⟩
   have K20 := H15.c0 h20
   refine WH.next (K20.rm s4) <| WH.all (fuel := 1) (rs := [9]) (by kernel_rfl) (by decide) ?_
   simp only [List.forall_mem_cons, List.not_mem_nil, false_implies, implies_true, and_true]
   refine ⟨_, rfl, ?_⟩
   refine stw (ds := [.slice An19 ((if c.B = 2 ∧ (ofL m.Chunks c.A).length > 0 then m.Nodes else if (nSetL m.Nodes c.A c.B).2 = 0 then (nSetL m.Nodes c.A c.B).1 else m.Nodes).length) cn19, .slice Ac19 ((m.Chunks).length) cc19, .slice B2_m m.Sessions.length d2_m]) rfl rfl rfl sz_26 K20 s4 rfl rfl fun w21 K21 => ?_
   refine WH.next (K21.rm s0) <| WH.tk (fuel := 0) 10 rfl (by kernel_rfl) (by kernel_rfl) (by kernel_rfl) (fun _ hK => (Ev.assign rfl)) rfl (K21.rm s0) ?_
   exact WH.dn ⟨rfl, K21⟩ rfl (by kernel_rfl)
  rintro _ w22 ⟨rfl, K22⟩
  refine WP.ret (Pst.retC rfl ⟨_, _, rfl, ⟨_, rfl, loads_box (cs := [.slice An19 ((if c.B = 2 ∧ (ofL m.Chunks c.A).length > 0 then m.Nodes else if (nSetL m.Nodes c.A c.B).2 = 0 then (nSetL m.Nodes c.A c.B).1 else m.Nodes).length) cn19, .slice Ac19 ((m.Chunks).length) cc19, .slice B2_m m.Sessions.length d2_m]) ag_26 rfl (K22.x s0)⟩, ⟨_, _, rfl, rfl, rfl⟩⟩ ?_)
  have hd : doesM m c = (⟨if c.B = 2 ∧ (ofL m.Chunks c.A).length > 0 then m.Nodes else if (nSetL m.Nodes c.A c.B).2 = 0 then (nSetL m.Nodes c.A c.B).1 else m.Nodes, m.Chunks, m.Sessions⟩, numL (if c.B = 2 ∧ (ofL m.Chunks c.A).length > 0 then 8 else (nSetL m.Nodes c.A c.B).2) (0)) := by unfold doesM; rw [doX_2 hkd]
  rw [hd]
  exact ⟨An19, cn19, Ac19, cc19, B2_m, d2_m, rfl, ((((K22.rm s6).rm s5).rm s1).rm s0)⟩
 ·
  refine WP.held (fun wS => Hp w S0 wS [rBx g4 108 [.slice B0_m m.Nodes.length d0_m, .slice B1_m m.Chunks.length d1_m, .slice B2_m m.Sessions.length d2_m, .int .i64 0, .int .i64 0], rBx g3 26 [.slice none 0 0, .slice none 0 0, .slice none 0 0], rBx g2 58 [.int .i64 c.Client, .int .i64 c.Seq, .int .i64 c.Kind, .int .i64 c.A, .int .i64 c.B, .int .i64 c.C], rBx g1 26 [.slice B0_m m.Nodes.length d0_m, .slice B1_m m.Chunks.length d1_m, .slice B2_m m.Sessions.length d2_m]]) (fun lJ wJ => lJ = [(3, .pointer (some ⟨g2, 0, none⟩)), (4, .pointer (some ⟨g3, 0, none⟩)), (6, .pointer (some ⟨g4, 0, none⟩)), (7, .func (.func 76) #[] #[])] ∧ Hp w S0 wJ [rBx g4 108 [.slice B0_m m.Nodes.length d0_m, .slice B1_m m.Chunks.length d1_m, .slice B2_m m.Sessions.length d2_m, .int .i64 0, .int .i64 0], rBx g3 26 [.slice none 0 0, .slice none 0 0, .slice none 0 0], rBx g2 58 [.int .i64 c.Client, .int .i64 c.Seq, .int .i64 c.Kind, .int .i64 c.A, .int .i64 c.B, .int .i64 c.C], rBx g1 26 [.slice B0_m m.Nodes.length d0_m, .slice B1_m m.Chunks.length d1_m, .slice B2_m m.Sessions.length d2_m]]) (by kernel_rfl) ?_ ?_
  ·
   have H16 := K4.grow (Ext.refl w4).drew
   refine WH.tk (fuel := 4) 1 rfl (by kernel_rfl) (by kernel_rfl) (by kernel_rfl) (fun _ hK => (Ev.field (q := ⟨g2, 2, none⟩) fa_58_2 rfl rfl)) rfl H16 <| WH.tk (fuel := 3) 2 rfl (by kernel_rfl) (by kernel_rfl) (by kernel_rfl) (fun _ hK => (Ev.loadBoxCell na_3 rfl (hK.x s2) rfl)) rfl H16 ?_
   refine WH.all (fuel := 2) (rs := [0]) (by kernel_rfl) (by decide) ?_
   simp only [List.forall_mem_cons, List.not_mem_nil, false_implies, implies_true, and_true]
   refine ⟨_, rfl, ?_⟩
   refine WL.call rfl rfl rfl cl_62 (commands_ok (S0 := Any) _ ) rfl ?_
   rintro _ w23 ⟨g0_23, rfl, h23⟩
   have K23 := H16.f1 h23
   refine WH.next (K23.rm s0) <| WH.all (fuel := 1) (rs := [3]) (by kernel_rfl) (by decide) ?_
   simp only [List.forall_mem_cons, List.not_mem_nil, false_implies, implies_true, and_true]
   refine ⟨_, rfl, ?_⟩
   refine ev (Ev.look (i := 3) K23 s0 rfl rfl Tryz.underlying110 Tryz.underlying3 (by rw [hkd]; rfl)) <| WH.next (K23.rm s0) <| WH.tk (fuel := 0) 4 rfl (by kernel_rfl) (by kernel_rfl) (by kernel_rfl) (fun _ hK => (Ev.assign rfl)) rfl (K23.rm s0) ?_
   exact WH.dn ⟨rfl, (K23.rm s0)⟩ rfl (by kernel_rfl)
  rintro _ w24 ⟨rfl, K24⟩
  refine rg <| mv rfl <| ev (Ev.nefn Tryz.underlying109 rfl) <| dn ?_
  refine WP.cond_end rfl (fun _h => ?_) (fun _h => absurd _h (by decide))
  refine rge <| mv rfl <| mv rfl <| ev (Ev.loadBox ag_58 rfl rfl (K24.x s2)) ?_
  have H17 := K24.push (K24.a h0_m)
  have H18 := H17.push (H17.a h1_m)
  have H19 := H18.push (H18.a h2_m)
  refine WL.call rfl rfl rfl cl_76 (cmd4_ok ((((H19.sel s0).sel s1).sel s2).sel s3) hn hc hh) rfl ?_
  rintro _ w25 ⟨An25, cn25, Ac25, cc25, rfl, K25⟩
  refine dne <| Pst.norm ?_
  refine WP.held (fun wS => Hp w S0 wS [rBx g4 108 [.slice An25 ((m.Nodes).length) cn25, .slice Ac25 (((wrL createL m.Chunks c).1).length) cc25, .slice B2_m m.Sessions.length d2_m, .int .i64 ((wrL createL m.Chunks c).2.1), .int .i64 ((wrL createL m.Chunks c).2.2)], rSl tNode An25 cn25 (m.Nodes), rSl tChunk Ac25 cc25 ((wrL createL m.Chunks c).1), rSl tSession B2_m d2_m m.Sessions, rBx g2 58 [.int .i64 c.Client, .int .i64 c.Seq, .int .i64 c.Kind, .int .i64 c.A, .int .i64 c.B, .int .i64 c.C], rBx g1 26 [.slice B0_m m.Nodes.length d0_m, .slice B1_m m.Chunks.length d1_m, .slice B2_m m.Sessions.length d2_m]]) (fun lJ wJ => lJ = [(4, .pointer (some ⟨g3, 0, none⟩)), (5, .int .i64 (numL (⟨((wrL createL m.Chunks c).2.1), ((wrL createL m.Chunks c).2.2)⟩ : AAns).e (⟨((wrL createL m.Chunks c).2.1), ((wrL createL m.Chunks c).2.2)⟩ : AAns).n))] ∧ Hp w S0 wJ [rBx g3 26 [.slice An25 ((m.Nodes).length) cn25, .slice Ac25 (((wrL createL m.Chunks c).1).length) cc25, .slice B2_m m.Sessions.length d2_m], rBx g4 108 [.slice An25 ((m.Nodes).length) cn25, .slice Ac25 (((wrL createL m.Chunks c).1).length) cc25, .slice B2_m m.Sessions.length d2_m, .int .i64 ((wrL createL m.Chunks c).2.1), .int .i64 ((wrL createL m.Chunks c).2.2)], rSl tNode An25 cn25 (m.Nodes), rSl tChunk Ac25 cc25 ((wrL createL m.Chunks c).1), rSl tSession B2_m d2_m m.Sessions, rBx g2 58 [.int .i64 c.Client, .int .i64 c.Seq, .int .i64 c.Kind, .int .i64 c.A, .int .i64 c.B, .int .i64 c.C], rBx g1 26 [.slice B0_m m.Nodes.length d0_m, .slice B1_m m.Chunks.length d1_m, .slice B2_m m.Sessions.length d2_m]]) (by kernel_rfl) ?_ ?_
  ·
   have H20 := K25.grow (Ext.refl w25).drew
   refine WH.tk (fuel := 10) 0 rfl (by kernel_rfl) (by kernel_rfl) (by kernel_rfl) (fun _ hK => (Ev.move rfl)) rfl (H20.rm s4) <| WH.tk (fuel := 9) 1 rfl (by kernel_rfl) (by kernel_rfl) (by kernel_rfl) (fun _ hK => (Ev.nilCheck rfl)) rfl (H20.rm s4) ?_
   refine WH.tk (fuel := 8) 2 rfl (by kernel_rfl) (by kernel_rfl) (by kernel_rfl) (fun _ hK => (Ev.field (q := ⟨g4, 0, none⟩) fa_108_0 rfl rfl)) rfl (H20.rm s4) ?_
   refine WH.tk (fuel := 7) 3 rfl (by kernel_rfl) (by kernel_rfl) (by kernel_rfl) (fun _ hK => (Ev.loadBoxPart (cs' := [.slice An25 ((m.Nodes).length) cn25, .slice Ac25 (((wrL createL m.Chunks c).1).length) cc25, .slice B2_m m.Sessions.length d2_m]) ag_26 rfl rfl (hK.x s0) rfl)) rfl (H20.rm s4) ?_
   refine WH.tk (fuel := 6) 4 rfl (by kernel_rfl) (by kernel_rfl) (by kernel_rfl) (fun _ hK => (Ev.move rfl)) rfl (H20.rm s4) <| WH.tk (fuel := 5) 5 rfl (by kernel_rfl) (by kernel_rfl) (by kernel_rfl) (fun _ hK => (Ev.nilCheck rfl)) rfl (H20.rm s4) ?_
   refine WH.tk (fuel := 4) 6 rfl (by kernel_rfl) (by kernel_rfl) (by kernel_rfl) (fun _ hK => (Ev.field (q := ⟨g4, 3, none⟩) fa_108_1 rfl rfl)) rfl (H20.rm s4) ?_
   refine WH.tk (fuel := 3) 7 rfl (by kernel_rfl) (by kernel_rfl) (by kernel_rfl) (fun _ hK => (Ev.loadBoxPart (cs' := [.int .i64 ((wrL createL m.Chunks c).2.1), .int .i64 ((wrL createL m.Chunks c).2.2)]) ag_106 rfl rfl (hK.x s0) rfl)) rfl (H20.rm s4) ?_
   refine WH.all (fuel := 2) (rs := [8]) (by kernel_rfl) (by decide) ?_
   simp only [List.forall_mem_cons, List.not_mem_nil, false_implies, implies_true, and_true]
   refine ⟨_, rfl, ?_⟩
   refine WL.call rfl rfl rfl cl_63 (number_ok (S0 := Any) _ (⟨((wrL createL m.Chunks c).2.1), ((wrL createL m.Chunks c).2.2)⟩ : AAns) (err_3 m c)) rfl ?_
   rintro _ w26 ⟨rfl, h26⟩
   have K26 := H20.c0 h26
   refine WH.next (K26.rm s4) <| WH.all (fuel := 1) (rs := [9]) (by kernel_rfl) (by decide) ?_
   simp only [List.forall_mem_cons, List.not_mem_nil, false_implies, implies_true, and_true]
   refine ⟨_, rfl, ?_⟩
   refine stw (ds := [.slice An25 ((m.Nodes).length) cn25, .slice Ac25 (((wrL createL m.Chunks c).1).length) cc25, .slice B2_m m.Sessions.length d2_m]) rfl rfl rfl sz_26 K26 s4 rfl rfl fun w27 K27 => ?_
   refine WH.next (K27.rm s0) <| WH.tk (fuel := 0) 10 rfl (by kernel_rfl) (by kernel_rfl) (by kernel_rfl) (fun _ hK => (Ev.assign rfl)) rfl (K27.rm s0) ?_
   exact WH.dn ⟨rfl, K27⟩ rfl (by kernel_rfl)
  rintro _ w28 ⟨rfl, K28⟩
  refine WP.ret (Pst.retC rfl ⟨_, _, rfl, ⟨_, rfl, loads_box (cs := [.slice An25 ((m.Nodes).length) cn25, .slice Ac25 (((wrL createL m.Chunks c).1).length) cc25, .slice B2_m m.Sessions.length d2_m]) ag_26 rfl (K28.x s0)⟩, ⟨_, _, rfl, rfl, rfl⟩⟩ ?_)
  have hd : doesM m c = (⟨m.Nodes, (wrL createL m.Chunks c).1, m.Sessions⟩, numL ((wrL createL m.Chunks c).2.1) ((wrL createL m.Chunks c).2.2)) := by unfold doesM; rw [doX_3 hkd]
  rw [hd]
  exact ⟨An25, cn25, Ac25, cc25, B2_m, d2_m, rfl, ((((K28.rm s6).rm s5).rm s1).rm s0)⟩
 ·
  refine WP.held (fun wS => Hp w S0 wS [rBx g4 108 [.slice B0_m m.Nodes.length d0_m, .slice B1_m m.Chunks.length d1_m, .slice B2_m m.Sessions.length d2_m, .int .i64 0, .int .i64 0], rBx g3 26 [.slice none 0 0, .slice none 0 0, .slice none 0 0], rBx g2 58 [.int .i64 c.Client, .int .i64 c.Seq, .int .i64 c.Kind, .int .i64 c.A, .int .i64 c.B, .int .i64 c.C], rBx g1 26 [.slice B0_m m.Nodes.length d0_m, .slice B1_m m.Chunks.length d1_m, .slice B2_m m.Sessions.length d2_m]]) (fun lJ wJ => lJ = [(3, .pointer (some ⟨g2, 0, none⟩)), (4, .pointer (some ⟨g3, 0, none⟩)), (6, .pointer (some ⟨g4, 0, none⟩)), (7, .func (.func 79) #[] #[])] ∧ Hp w S0 wJ [rBx g4 108 [.slice B0_m m.Nodes.length d0_m, .slice B1_m m.Chunks.length d1_m, .slice B2_m m.Sessions.length d2_m, .int .i64 0, .int .i64 0], rBx g3 26 [.slice none 0 0, .slice none 0 0, .slice none 0 0], rBx g2 58 [.int .i64 c.Client, .int .i64 c.Seq, .int .i64 c.Kind, .int .i64 c.A, .int .i64 c.B, .int .i64 c.C], rBx g1 26 [.slice B0_m m.Nodes.length d0_m, .slice B1_m m.Chunks.length d1_m, .slice B2_m m.Sessions.length d2_m]]) (by kernel_rfl) ?_ ?_
  ·
   have H21 := K4.grow (Ext.refl w4).drew
   refine WH.tk (fuel := 4) 1 rfl (by kernel_rfl) (by kernel_rfl) (by kernel_rfl) (fun _ hK => (Ev.field (q := ⟨g2, 2, none⟩) fa_58_2 rfl rfl)) rfl H21 <| WH.tk (fuel := 3) 2 rfl (by kernel_rfl) (by kernel_rfl) (by kernel_rfl) (fun _ hK => (Ev.loadBoxCell na_3 rfl (hK.x s2) rfl)) rfl H21 ?_
   refine WH.all (fuel := 2) (rs := [0]) (by kernel_rfl) (by decide) ?_
   simp only [List.forall_mem_cons, List.not_mem_nil, false_implies, implies_true, and_true]
   refine ⟨_, rfl, ?_⟩
   refine WL.call rfl rfl rfl cl_62 (commands_ok (S0 := Any) _ ) rfl ?_
   rintro _ w29 ⟨g0_29, rfl, h29⟩
   have K29 := H21.f1 h29
   refine WH.next (K29.rm s0) <| WH.all (fuel := 1) (rs := [3]) (by kernel_rfl) (by decide) ?_
   simp only [List.forall_mem_cons, List.not_mem_nil, false_implies, implies_true, and_true]
   refine ⟨_, rfl, ?_⟩
   refine ev (Ev.look (i := 4) K29 s0 rfl rfl Tryz.underlying110 Tryz.underlying3 (by rw [hkd]; rfl)) <| WH.next (K29.rm s0) <| WH.tk (fuel := 0) 4 rfl (by kernel_rfl) (by kernel_rfl) (by kernel_rfl) (fun _ hK => (Ev.assign rfl)) rfl (K29.rm s0) ?_
   exact WH.dn ⟨rfl, (K29.rm s0)⟩ rfl (by kernel_rfl)
  rintro _ w30 ⟨rfl, K30⟩
  refine rg <| mv rfl <| ev (Ev.nefn Tryz.underlying109 rfl) <| dn ?_
  refine WP.cond_end rfl (fun _h => ?_) (fun _h => absurd _h (by decide))
  refine rge <| mv rfl <| mv rfl <| ev (Ev.loadBox ag_58 rfl rfl (K30.x s2)) ?_
  have H22 := K30.push (K30.a h0_m)
  have H23 := H22.push (H22.a h1_m)
  have H24 := H23.push (H23.a h2_m)
  refine WL.call rfl rfl rfl cl_79 (cmd5_ok ((((H24.sel s0).sel s1).sel s2).sel s3) hn hc hh) rfl ?_
  rintro _ w31 ⟨An31, cn31, Ac31, cc31, rfl, K31⟩
  refine dne <| Pst.norm ?_
  refine WP.held (fun wS => Hp w S0 wS [rBx g4 108 [.slice An31 ((m.Nodes).length) cn31, .slice Ac31 (((wrL (fun (l : List AChunk) (id sum : Int) => chgL l id (writeF sum)) m.Chunks c).1).length) cc31, .slice B2_m m.Sessions.length d2_m, .int .i64 ((wrL (fun (l : List AChunk) (id sum : Int) => chgL l id (writeF sum)) m.Chunks c).2.1), .int .i64 ((wrL (fun (l : List AChunk) (id sum : Int) => chgL l id (writeF sum)) m.Chunks c).2.2)], rSl tNode An31 cn31 (m.Nodes), rSl tChunk Ac31 cc31 ((wrL (fun (l : List AChunk) (id sum : Int) => chgL l id (writeF sum)) m.Chunks c).1), rSl tSession B2_m d2_m m.Sessions, rBx g2 58 [.int .i64 c.Client, .int .i64 c.Seq, .int .i64 c.Kind, .int .i64 c.A, .int .i64 c.B, .int .i64 c.C], rBx g1 26 [.slice B0_m m.Nodes.length d0_m, .slice B1_m m.Chunks.length d1_m, .slice B2_m m.Sessions.length d2_m]]) (fun lJ wJ => lJ = [(4, .pointer (some ⟨g3, 0, none⟩)), (5, .int .i64 (numL (⟨((wrL (fun (l : List AChunk) (id sum : Int) => chgL l id (writeF sum)) m.Chunks c).2.1), ((wrL (fun (l : List AChunk) (id sum : Int) => chgL l id (writeF sum)) m.Chunks c).2.2)⟩ : AAns).e (⟨((wrL (fun (l : List AChunk) (id sum : Int) => chgL l id (writeF sum)) m.Chunks c).2.1), ((wrL (fun (l : List AChunk) (id sum : Int) => chgL l id (writeF sum)) m.Chunks c).2.2)⟩ : AAns).n))] ∧ Hp w S0 wJ [rBx g3 26 [.slice An31 ((m.Nodes).length) cn31, .slice Ac31 (((wrL (fun (l : List AChunk) (id sum : Int) => chgL l id (writeF sum)) m.Chunks c).1).length) cc31, .slice B2_m m.Sessions.length d2_m], rBx g4 108 [.slice An31 ((m.Nodes).length) cn31, .slice Ac31 (((wrL (fun (l : List AChunk) (id sum : Int) => chgL l id (writeF sum)) m.Chunks c).1).length) cc31, .slice B2_m m.Sessions.length d2_m, .int .i64 ((wrL (fun (l : List AChunk) (id sum : Int) => chgL l id (writeF sum)) m.Chunks c).2.1), .int .i64 ((wrL (fun (l : List AChunk) (id sum : Int) => chgL l id (writeF sum)) m.Chunks c).2.2)], rSl tNode An31 cn31 (m.Nodes), rSl tChunk Ac31 cc31 ((wrL (fun (l : List AChunk) (id sum : Int) => chgL l id (writeF sum)) m.Chunks c).1), rSl tSession B2_m d2_m m.Sessions, rBx g2 58 [.int .i64 c.Client, .int .i64 c.Seq, .int .i64 c.Kind, .int .i64 c.A, .int .i64 c.B, .int .i64 c.C], rBx g1 26 [.slice B0_m m.Nodes.length d0_m, .slice B1_m m.Chunks.length d1_m, .slice B2_m m.Sessions.length d2_m]]) (by kernel_rfl) ?_ ?_
  ·
   have H25 := K31.grow (Ext.refl w31).drew
   refine WH.tk (fuel := 10) 0 rfl (by kernel_rfl) (by kernel_rfl) (by kernel_rfl) (fun _ hK => (Ev.move rfl)) rfl (H25.rm s4) <| WH.tk (fuel := 9) 1 rfl (by kernel_rfl) (by kernel_rfl) (by kernel_rfl) (fun _ hK => (Ev.nilCheck rfl)) rfl (H25.rm s4) ?_
   refine WH.tk (fuel := 8) 2 rfl (by kernel_rfl) (by kernel_rfl) (by kernel_rfl) (fun _ hK => (Ev.field (q := ⟨g4, 0, none⟩) fa_108_0 rfl rfl)) rfl (H25.rm s4) ?_
   refine WH.tk (fuel := 7) 3 rfl (by kernel_rfl) (by kernel_rfl) (by kernel_rfl) (fun _ hK => (Ev.loadBoxPart (cs' := [.slice An31 ((m.Nodes).length) cn31, .slice Ac31 (((wrL (fun (l : List AChunk) (id sum : Int) => chgL l id (writeF sum)) m.Chunks c).1).length) cc31, .slice B2_m m.Sessions.length d2_m]) ag_26 rfl rfl (hK.x s0) rfl)) rfl (H25.rm s4) ?_
   refine WH.tk (fuel := 6) 4 rfl (by kernel_rfl) (by kernel_rfl) (by kernel_rfl) (fun _ hK => (Ev.move rfl)) rfl (H25.rm s4) <| WH.tk (fuel := 5) 5 rfl (by kernel_rfl) (by kernel_rfl) (by kernel_rfl) (fun _ hK => (Ev.nilCheck rfl)) rfl (H25.rm s4) ?_
   refine WH.tk (fuel := 4) 6 rfl (by kernel_rfl) (by kernel_rfl) (by kernel_rfl) (fun _ hK => (Ev.field (q := ⟨g4, 3, none⟩) fa_108_1 rfl rfl)) rfl (H25.rm s4) ?_
   refine WH.tk (fuel := 3) 7 rfl (by kernel_rfl) (by kernel_rfl) (by kernel_rfl) (fun _ hK => (Ev.loadBoxPart (cs' := [.int .i64 ((wrL (fun (l : List AChunk) (id sum : Int) => chgL l id (writeF sum)) m.Chunks c).2.1), .int .i64 ((wrL (fun (l : List AChunk) (id sum : Int) => chgL l id (writeF sum)) m.Chunks c).2.2)]) ag_106 rfl rfl (hK.x s0) rfl)) rfl (H25.rm s4) ?_
   refine WH.all (fuel := 2) (rs := [8]) (by kernel_rfl) (by decide) ?_
   simp only [List.forall_mem_cons, List.not_mem_nil, false_implies, implies_true, and_true]
   refine ⟨_, rfl, ?_⟩
   refine WL.call rfl rfl rfl cl_63 (number_ok (S0 := Any) _ (⟨((wrL (fun (l : List AChunk) (id sum : Int) => chgL l id (writeF sum)) m.Chunks c).2.1), ((wrL (fun (l : List AChunk) (id sum : Int) => chgL l id (writeF sum)) m.Chunks c).2.2)⟩ : AAns) (err_4 m c)) rfl ?_
   rintro _ w32 ⟨rfl, h32⟩
   have K32 := H25.c0 h32
   refine WH.next (K32.rm s4) <| WH.all (fuel := 1) (rs := [9]) (by kernel_rfl) (by decide) ?_
   simp only [List.forall_mem_cons, List.not_mem_nil, false_implies, implies_true, and_true]
   refine ⟨_, rfl, ?_⟩
   refine stw (ds := [.slice An31 ((m.Nodes).length) cn31, .slice Ac31 (((wrL (fun (l : List AChunk) (id sum : Int) => chgL l id (writeF sum)) m.Chunks c).1).length) cc31, .slice B2_m m.Sessions.length d2_m]) rfl rfl rfl sz_26 K32 s4 rfl rfl fun w33 K33 => ?_
   refine WH.next (K33.rm s0) <| WH.tk (fuel := 0) 10 rfl (by kernel_rfl) (by kernel_rfl) (by kernel_rfl) (fun _ hK => (Ev.assign rfl)) rfl (K33.rm s0) ?_
   exact WH.dn ⟨rfl, K33⟩ rfl (by kernel_rfl)
  rintro _ w34 ⟨rfl, K34⟩
  refine WP.ret (Pst.retC rfl ⟨_, _, rfl, ⟨_, rfl, loads_box (cs := [.slice An31 ((m.Nodes).length) cn31, .slice Ac31 (((wrL (fun (l : List AChunk) (id sum : Int) => chgL l id (writeF sum)) m.Chunks c).1).length) cc31, .slice B2_m m.Sessions.length d2_m]) ag_26 rfl (K34.x s0)⟩, ⟨_, _, rfl, rfl, rfl⟩⟩ ?_)
  have hd : doesM m c = (⟨m.Nodes, (wrL (fun (l : List AChunk) (id sum : Int) => chgL l id (writeF sum)) m.Chunks c).1, m.Sessions⟩, numL ((wrL (fun (l : List AChunk) (id sum : Int) => chgL l id (writeF sum)) m.Chunks c).2.1) ((wrL (fun (l : List AChunk) (id sum : Int) => chgL l id (writeF sum)) m.Chunks c).2.2)) := by unfold doesM; rw [doX_4 hkd]
  rw [hd]
  exact ⟨An31, cn31, Ac31, cc31, B2_m, d2_m, rfl, ((((K34.rm s6).rm s5).rm s1).rm s0)⟩
 ·
  refine WP.held (fun wS => Hp w S0 wS [rBx g4 108 [.slice B0_m m.Nodes.length d0_m, .slice B1_m m.Chunks.length d1_m, .slice B2_m m.Sessions.length d2_m, .int .i64 0, .int .i64 0], rBx g3 26 [.slice none 0 0, .slice none 0 0, .slice none 0 0], rBx g2 58 [.int .i64 c.Client, .int .i64 c.Seq, .int .i64 c.Kind, .int .i64 c.A, .int .i64 c.B, .int .i64 c.C], rBx g1 26 [.slice B0_m m.Nodes.length d0_m, .slice B1_m m.Chunks.length d1_m, .slice B2_m m.Sessions.length d2_m]]) (fun lJ wJ => lJ = [(3, .pointer (some ⟨g2, 0, none⟩)), (4, .pointer (some ⟨g3, 0, none⟩)), (6, .pointer (some ⟨g4, 0, none⟩)), (7, .func (.func 81) #[] #[])] ∧ Hp w S0 wJ [rBx g4 108 [.slice B0_m m.Nodes.length d0_m, .slice B1_m m.Chunks.length d1_m, .slice B2_m m.Sessions.length d2_m, .int .i64 0, .int .i64 0], rBx g3 26 [.slice none 0 0, .slice none 0 0, .slice none 0 0], rBx g2 58 [.int .i64 c.Client, .int .i64 c.Seq, .int .i64 c.Kind, .int .i64 c.A, .int .i64 c.B, .int .i64 c.C], rBx g1 26 [.slice B0_m m.Nodes.length d0_m, .slice B1_m m.Chunks.length d1_m, .slice B2_m m.Sessions.length d2_m]]) (by kernel_rfl) ?_ ?_
  ·
   have H26 := K4.grow (Ext.refl w4).drew
   refine WH.tk (fuel := 4) 1 rfl (by kernel_rfl) (by kernel_rfl) (by kernel_rfl) (fun _ hK => (Ev.field (q := ⟨g2, 2, none⟩) fa_58_2 rfl rfl)) rfl H26 <| WH.tk (fuel := 3) 2 rfl (by kernel_rfl) (by kernel_rfl) (by kernel_rfl) (fun _ hK => (Ev.loadBoxCell na_3 rfl (hK.x s2) rfl)) rfl H26 ?_
   refine WH.all (fuel := 2) (rs := [0]) (by kernel_rfl) (by decide) ?_
   simp only [List.forall_mem_cons, List.not_mem_nil, false_implies, implies_true, and_true]
   refine ⟨_, rfl, ?_⟩
   refine WL.call rfl rfl rfl cl_62 (commands_ok (S0 := Any) _ ) rfl ?_
   rintro _ w35 ⟨g0_35, rfl, h35⟩
   have K35 := H26.f1 h35
   refine WH.next (K35.rm s0) <| WH.all (fuel := 1) (rs := [3]) (by kernel_rfl) (by decide) ?_
   simp only [List.forall_mem_cons, List.not_mem_nil, false_implies, implies_true, and_true]
   refine ⟨_, rfl, ?_⟩
   refine ev (Ev.look (i := 5) K35 s0 rfl rfl Tryz.underlying110 Tryz.underlying3 (by rw [hkd]; rfl)) <| WH.next (K35.rm s0) <| WH.tk (fuel := 0) 4 rfl (by kernel_rfl) (by kernel_rfl) (by kernel_rfl) (fun _ hK => (Ev.assign rfl)) rfl (K35.rm s0) ?_
   exact WH.dn ⟨rfl, (K35.rm s0)⟩ rfl (by kernel_rfl)
  rintro _ w36 ⟨rfl, K36⟩
  refine rg <| mv rfl <| ev (Ev.nefn Tryz.underlying109 rfl) <| dn ?_
  refine WP.cond_end rfl (fun _h => ?_) (fun _h => absurd _h (by decide))
  refine rge <| mv rfl <| mv rfl <| ev (Ev.loadBox ag_58 rfl rfl (K36.x s2)) ?_
  have H27 := K36.push (K36.a h0_m)
  have H28 := H27.push (H27.a h1_m)
  have H29 := H28.push (H28.a h2_m)
  refine WL.call rfl rfl rfl cl_81 (cmd6_ok ((((H29.sel s0).sel s1).sel s2).sel s3) hn hc hh) rfl ?_
  rintro _ w37 ⟨An37, cn37, Ac37, cc37, rfl, K37⟩
  refine dne <| Pst.norm ?_
  refine WP.held (fun wS => Hp w S0 wS [rBx g4 108 [.slice An37 ((m.Nodes).length) cn37, .slice Ac37 ((if standsL m.Nodes c.B = true then (if (claimL m.Chunks c.A c.B c.C).2 = 0 then (claimL m.Chunks c.A c.B c.C).1 else m.Chunks) else m.Chunks).length) cc37, .slice B2_m m.Sessions.length d2_m, .int .i64 (if standsL m.Nodes c.B = true then (claimL m.Chunks c.A c.B c.C).2 else 5), .int .i64 (0)], rSl tNode An37 cn37 (m.Nodes), rSl tChunk Ac37 cc37 (if standsL m.Nodes c.B = true then (if (claimL m.Chunks c.A c.B c.C).2 = 0 then (claimL m.Chunks c.A c.B c.C).1 else m.Chunks) else m.Chunks), rSl tSession B2_m d2_m m.Sessions, rBx g2 58 [.int .i64 c.Client, .int .i64 c.Seq, .int .i64 c.Kind, .int .i64 c.A, .int .i64 c.B, .int .i64 c.C], rBx g1 26 [.slice B0_m m.Nodes.length d0_m, .slice B1_m m.Chunks.length d1_m, .slice B2_m m.Sessions.length d2_m]]) (fun lJ wJ => lJ = [(4, .pointer (some ⟨g3, 0, none⟩)), (5, .int .i64 (numL (⟨(if standsL m.Nodes c.B = true then (claimL m.Chunks c.A c.B c.C).2 else 5), (0)⟩ : AAns).e (⟨(if standsL m.Nodes c.B = true then (claimL m.Chunks c.A c.B c.C).2 else 5), (0)⟩ : AAns).n))] ∧ Hp w S0 wJ [rBx g3 26 [.slice An37 ((m.Nodes).length) cn37, .slice Ac37 ((if standsL m.Nodes c.B = true then (if (claimL m.Chunks c.A c.B c.C).2 = 0 then (claimL m.Chunks c.A c.B c.C).1 else m.Chunks) else m.Chunks).length) cc37, .slice B2_m m.Sessions.length d2_m], rBx g4 108 [.slice An37 ((m.Nodes).length) cn37, .slice Ac37 ((if standsL m.Nodes c.B = true then (if (claimL m.Chunks c.A c.B c.C).2 = 0 then (claimL m.Chunks c.A c.B c.C).1 else m.Chunks) else m.Chunks).length) cc37, .slice B2_m m.Sessions.length d2_m, .int .i64 (if standsL m.Nodes c.B = true then (claimL m.Chunks c.A c.B c.C).2 else 5), .int .i64 (0)], rSl tNode An37 cn37 (m.Nodes), rSl tChunk Ac37 cc37 (if standsL m.Nodes c.B = true then (if (claimL m.Chunks c.A c.B c.C).2 = 0 then (claimL m.Chunks c.A c.B c.C).1 else m.Chunks) else m.Chunks), rSl tSession B2_m d2_m m.Sessions, rBx g2 58 [.int .i64 c.Client, .int .i64 c.Seq, .int .i64 c.Kind, .int .i64 c.A, .int .i64 c.B, .int .i64 c.C], rBx g1 26 [.slice B0_m m.Nodes.length d0_m, .slice B1_m m.Chunks.length d1_m, .slice B2_m m.Sessions.length d2_m]]) (by kernel_rfl) ?_ ?_
  ·
   have H30 := K37.grow (Ext.refl w37).drew
   refine WH.tk (fuel := 10) 0 rfl (by kernel_rfl) (by kernel_rfl) (by kernel_rfl) (fun _ hK => (Ev.move rfl)) rfl (H30.rm s4) <| WH.tk (fuel := 9) 1 rfl (by kernel_rfl) (by kernel_rfl) (by kernel_rfl) (fun _ hK => (Ev.nilCheck rfl)) rfl (H30.rm s4) ?_
   refine WH.tk (fuel := 8) 2 rfl (by kernel_rfl) (by kernel_rfl) (by kernel_rfl) (fun _ hK => (Ev.field (q := ⟨g4, 0, none⟩) fa_108_0 rfl rfl)) rfl (H30.rm s4) ?_
   refine WH.tk (fuel := 7) 3 rfl (by kernel_rfl) (by kernel_rfl) (by kernel_rfl) (fun _ hK => (Ev.loadBoxPart (cs' := [.slice An37 ((m.Nodes).length) cn37, .slice Ac37 ((if standsL m.Nodes c.B = true then (if (claimL m.Chunks c.A c.B c.C).2 = 0 then (claimL m.Chunks c.A c.B c.C).1 else m.Chunks) else m.Chunks).length) cc37, .slice B2_m m.Sessions.length d2_m]) ag_26 rfl rfl (hK.x s0) rfl)) rfl (H30.rm s4) ?_
   refine WH.tk (fuel := 6) 4 rfl (by kernel_rfl) (by kernel_rfl) (by kernel_rfl) (fun _ hK => (Ev.move rfl)) rfl (H30.rm s4) <| WH.tk (fuel := 5) 5 rfl (by kernel_rfl) (by kernel_rfl) (by kernel_rfl) (fun _ hK => (Ev.nilCheck rfl)) rfl (H30.rm s4) ?_
   refine WH.tk (fuel := 4) 6 rfl (by kernel_rfl) (by kernel_rfl) (by kernel_rfl) (fun _ hK => (Ev.field (q := ⟨g4, 3, none⟩) fa_108_1 rfl rfl)) rfl (H30.rm s4) ?_
   refine WH.tk (fuel := 3) 7 rfl (by kernel_rfl) (by kernel_rfl) (by kernel_rfl) (fun _ hK => (Ev.loadBoxPart (cs' := [.int .i64 (if standsL m.Nodes c.B = true then (claimL m.Chunks c.A c.B c.C).2 else 5), .int .i64 (0)]) ag_106 rfl rfl (hK.x s0) rfl)) rfl (H30.rm s4) ?_
   refine WH.all (fuel := 2) (rs := [8]) (by kernel_rfl) (by decide) ?_
   simp only [List.forall_mem_cons, List.not_mem_nil, false_implies, implies_true, and_true]
   refine ⟨_, rfl, ?_⟩
   refine WL.call rfl rfl rfl cl_63 (number_ok (S0 := Any) _ (⟨(if standsL m.Nodes c.B = true then (claimL m.Chunks c.A c.B c.C).2 else 5), (0)⟩ : AAns) (err_5 m c)) rfl ?_
   rintro _ w38 ⟨rfl, h38⟩
   have K38 := H30.c0 h38
   refine WH.next (K38.rm s4) <| WH.all (fuel := 1) (rs := [9]) (by kernel_rfl) (by decide) ?_
   simp only [List.forall_mem_cons, List.not_mem_nil, false_implies, implies_true, and_true]
   refine ⟨_, rfl, ?_⟩
   refine stw (ds := [.slice An37 ((m.Nodes).length) cn37, .slice Ac37 ((if standsL m.Nodes c.B = true then (if (claimL m.Chunks c.A c.B c.C).2 = 0 then (claimL m.Chunks c.A c.B c.C).1 else m.Chunks) else m.Chunks).length) cc37, .slice B2_m m.Sessions.length d2_m]) rfl rfl rfl sz_26 K38 s4 rfl rfl fun w39 K39 => ?_
   refine WH.next (K39.rm s0) <| WH.tk (fuel := 0) 10 rfl (by kernel_rfl) (by kernel_rfl) (by kernel_rfl) (fun _ hK => (Ev.assign rfl)) rfl (K39.rm s0) ?_
   exact WH.dn ⟨rfl, K39⟩ rfl (by kernel_rfl)
  rintro _ w40 ⟨rfl, K40⟩
  refine WP.ret (Pst.retC rfl ⟨_, _, rfl, ⟨_, rfl, loads_box (cs := [.slice An37 ((m.Nodes).length) cn37, .slice Ac37 ((if standsL m.Nodes c.B = true then (if (claimL m.Chunks c.A c.B c.C).2 = 0 then (claimL m.Chunks c.A c.B c.C).1 else m.Chunks) else m.Chunks).length) cc37, .slice B2_m m.Sessions.length d2_m]) ag_26 rfl (K40.x s0)⟩, ⟨_, _, rfl, rfl, rfl⟩⟩ ?_)
  have hd : doesM m c = (⟨m.Nodes, if standsL m.Nodes c.B = true then (if (claimL m.Chunks c.A c.B c.C).2 = 0 then (claimL m.Chunks c.A c.B c.C).1 else m.Chunks) else m.Chunks, m.Sessions⟩, numL (if standsL m.Nodes c.B = true then (claimL m.Chunks c.A c.B c.C).2 else 5) (0)) := by unfold doesM; rw [doX_5 hkd]
  rw [hd]
  exact ⟨An37, cn37, Ac37, cc37, B2_m, d2_m, rfl, ((((K40.rm s6).rm s5).rm s1).rm s0)⟩
 ·
  refine WP.held (fun wS => Hp w S0 wS [rBx g4 108 [.slice B0_m m.Nodes.length d0_m, .slice B1_m m.Chunks.length d1_m, .slice B2_m m.Sessions.length d2_m, .int .i64 0, .int .i64 0], rBx g3 26 [.slice none 0 0, .slice none 0 0, .slice none 0 0], rBx g2 58 [.int .i64 c.Client, .int .i64 c.Seq, .int .i64 c.Kind, .int .i64 c.A, .int .i64 c.B, .int .i64 c.C], rBx g1 26 [.slice B0_m m.Nodes.length d0_m, .slice B1_m m.Chunks.length d1_m, .slice B2_m m.Sessions.length d2_m]]) (fun lJ wJ => lJ = [(3, .pointer (some ⟨g2, 0, none⟩)), (4, .pointer (some ⟨g3, 0, none⟩)), (6, .pointer (some ⟨g4, 0, none⟩)), (7, .func (.func 84) #[] #[])] ∧ Hp w S0 wJ [rBx g4 108 [.slice B0_m m.Nodes.length d0_m, .slice B1_m m.Chunks.length d1_m, .slice B2_m m.Sessions.length d2_m, .int .i64 0, .int .i64 0], rBx g3 26 [.slice none 0 0, .slice none 0 0, .slice none 0 0], rBx g2 58 [.int .i64 c.Client, .int .i64 c.Seq, .int .i64 c.Kind, .int .i64 c.A, .int .i64 c.B, .int .i64 c.C], rBx g1 26 [.slice B0_m m.Nodes.length d0_m, .slice B1_m m.Chunks.length d1_m, .slice B2_m m.Sessions.length d2_m]]) (by kernel_rfl) ?_ ?_
  ·
   have H31 := K4.grow (Ext.refl w4).drew
   refine WH.tk (fuel := 4) 1 rfl (by kernel_rfl) (by kernel_rfl) (by kernel_rfl) (fun _ hK => (Ev.field (q := ⟨g2, 2, none⟩) fa_58_2 rfl rfl)) rfl H31 <| WH.tk (fuel := 3) 2 rfl (by kernel_rfl) (by kernel_rfl) (by kernel_rfl) (fun _ hK => (Ev.loadBoxCell na_3 rfl (hK.x s2) rfl)) rfl H31 ?_
   refine WH.all (fuel := 2) (rs := [0]) (by kernel_rfl) (by decide) ?_
   simp only [List.forall_mem_cons, List.not_mem_nil, false_implies, implies_true, and_true]
   refine ⟨_, rfl, ?_⟩
   refine WL.call rfl rfl rfl cl_62 (commands_ok (S0 := Any) _ ) rfl ?_
   rintro _ w41 ⟨g0_41, rfl, h41⟩
   have K41 := H31.f1 h41
   refine WH.next (K41.rm s0) <| WH.all (fuel := 1) (rs := [3]) (by kernel_rfl) (by decide) ?_
   simp only [List.forall_mem_cons, List.not_mem_nil, false_implies, implies_true, and_true]
   refine ⟨_, rfl, ?_⟩
   refine ev (Ev.look (i := 6) K41 s0 rfl rfl Tryz.underlying110 Tryz.underlying3 (by rw [hkd]; rfl)) <| WH.next (K41.rm s0) <| WH.tk (fuel := 0) 4 rfl (by kernel_rfl) (by kernel_rfl) (by kernel_rfl) (fun _ hK => (Ev.assign rfl)) rfl (K41.rm s0) ?_
   exact WH.dn ⟨rfl, (K41.rm s0)⟩ rfl (by kernel_rfl)
  rintro _ w42 ⟨rfl, K42⟩
  refine rg <| mv rfl <| ev (Ev.nefn Tryz.underlying109 rfl) <| dn ?_
  refine WP.cond_end rfl (fun _h => ?_) (fun _h => absurd _h (by decide))
  refine rge <| mv rfl <| mv rfl <| ev (Ev.loadBox ag_58 rfl rfl (K42.x s2)) ?_
  have H32 := K42.push (K42.a h0_m)
  have H33 := H32.push (H32.a h1_m)
  have H34 := H33.push (H33.a h2_m)
  refine WL.call rfl rfl rfl cl_84 (cmd7_ok ((((H34.sel s0).sel s1).sel s2).sel s3) hn hc hh) rfl ?_
  rintro _ w43 ⟨An43, cn43, Ac43, cc43, rfl, K43⟩
  refine dne <| Pst.norm ?_
  refine WP.held (fun wS => Hp w S0 wS [rBx g4 108 [.slice An43 ((m.Nodes).length) cn43, .slice Ac43 ((if (chgL m.Chunks c.A (unclaimF c.B)).2 = 0 then (chgL m.Chunks c.A (unclaimF c.B)).1 else m.Chunks).length) cc43, .slice B2_m m.Sessions.length d2_m, .int .i64 ((chgL m.Chunks c.A (unclaimF c.B)).2), .int .i64 (0)], rSl tNode An43 cn43 (m.Nodes), rSl tChunk Ac43 cc43 (if (chgL m.Chunks c.A (unclaimF c.B)).2 = 0 then (chgL m.Chunks c.A (unclaimF c.B)).1 else m.Chunks), rSl tSession B2_m d2_m m.Sessions, rBx g2 58 [.int .i64 c.Client, .int .i64 c.Seq, .int .i64 c.Kind, .int .i64 c.A, .int .i64 c.B, .int .i64 c.C], rBx g1 26 [.slice B0_m m.Nodes.length d0_m, .slice B1_m m.Chunks.length d1_m, .slice B2_m m.Sessions.length d2_m]]) (fun lJ wJ => lJ = [(4, .pointer (some ⟨g3, 0, none⟩)), (5, .int .i64 (numL (⟨((chgL m.Chunks c.A (unclaimF c.B)).2), (0)⟩ : AAns).e (⟨((chgL m.Chunks c.A (unclaimF c.B)).2), (0)⟩ : AAns).n))] ∧ Hp w S0 wJ [rBx g3 26 [.slice An43 ((m.Nodes).length) cn43, .slice Ac43 ((if (chgL m.Chunks c.A (unclaimF c.B)).2 = 0 then (chgL m.Chunks c.A (unclaimF c.B)).1 else m.Chunks).length) cc43, .slice B2_m m.Sessions.length d2_m], rBx g4 108 [.slice An43 ((m.Nodes).length) cn43, .slice Ac43 ((if (chgL m.Chunks c.A (unclaimF c.B)).2 = 0 then (chgL m.Chunks c.A (unclaimF c.B)).1 else m.Chunks).length) cc43, .slice B2_m m.Sessions.length d2_m, .int .i64 ((chgL m.Chunks c.A (unclaimF c.B)).2), .int .i64 (0)], rSl tNode An43 cn43 (m.Nodes), rSl tChunk Ac43 cc43 (if (chgL m.Chunks c.A (unclaimF c.B)).2 = 0 then (chgL m.Chunks c.A (unclaimF c.B)).1 else m.Chunks), rSl tSession B2_m d2_m m.Sessions, rBx g2 58 [.int .i64 c.Client, .int .i64 c.Seq, .int .i64 c.Kind, .int .i64 c.A, .int .i64 c.B, .int .i64 c.C], rBx g1 26 [.slice B0_m m.Nodes.length d0_m, .slice B1_m m.Chunks.length d1_m, .slice B2_m m.Sessions.length d2_m]]) (by kernel_rfl) ?_ ?_
  ·
   have H35 := K43.grow (Ext.refl w43).drew
   refine WH.tk (fuel := 10) 0 rfl (by kernel_rfl) (by kernel_rfl) (by kernel_rfl) (fun _ hK => (Ev.move rfl)) rfl (H35.rm s4) <| WH.tk (fuel := 9) 1 rfl (by kernel_rfl) (by kernel_rfl) (by kernel_rfl) (fun _ hK => (Ev.nilCheck rfl)) rfl (H35.rm s4) ?_
   refine WH.tk (fuel := 8) 2 rfl (by kernel_rfl) (by kernel_rfl) (by kernel_rfl) (fun _ hK => (Ev.field (q := ⟨g4, 0, none⟩) fa_108_0 rfl rfl)) rfl (H35.rm s4) ?_
   refine WH.tk (fuel := 7) 3 rfl (by kernel_rfl) (by kernel_rfl) (by kernel_rfl) (fun _ hK => (Ev.loadBoxPart (cs' := [.slice An43 ((m.Nodes).length) cn43, .slice Ac43 ((if (chgL m.Chunks c.A (unclaimF c.B)).2 = 0 then (chgL m.Chunks c.A (unclaimF c.B)).1 else m.Chunks).length) cc43, .slice B2_m m.Sessions.length d2_m]) ag_26 rfl rfl (hK.x s0) rfl)) rfl (H35.rm s4) ?_
   refine WH.tk (fuel := 6) 4 rfl (by kernel_rfl) (by kernel_rfl) (by kernel_rfl) (fun _ hK => (Ev.move rfl)) rfl (H35.rm s4) <| WH.tk (fuel := 5) 5 rfl (by kernel_rfl) (by kernel_rfl) (by kernel_rfl) (fun _ hK => (Ev.nilCheck rfl)) rfl (H35.rm s4) ?_
   refine WH.tk (fuel := 4) 6 rfl (by kernel_rfl) (by kernel_rfl) (by kernel_rfl) (fun _ hK => (Ev.field (q := ⟨g4, 3, none⟩) fa_108_1 rfl rfl)) rfl (H35.rm s4) ?_
   refine WH.tk (fuel := 3) 7 rfl (by kernel_rfl) (by kernel_rfl) (by kernel_rfl) (fun _ hK => (Ev.loadBoxPart (cs' := [.int .i64 ((chgL m.Chunks c.A (unclaimF c.B)).2), .int .i64 (0)]) ag_106 rfl rfl (hK.x s0) rfl)) rfl (H35.rm s4) ?_
   refine WH.all (fuel := 2) (rs := [8]) (by kernel_rfl) (by decide) ?_
   simp only [List.forall_mem_cons, List.not_mem_nil, false_implies, implies_true, and_true]
   refine ⟨_, rfl, ?_⟩
   refine WL.call rfl rfl rfl cl_63 (number_ok (S0 := Any) _ (⟨((chgL m.Chunks c.A (unclaimF c.B)).2), (0)⟩ : AAns) (err_6 m c)) rfl ?_
   rintro _ w44 ⟨rfl, h44⟩
   have K44 := H35.c0 h44
   refine WH.next (K44.rm s4) <| WH.all (fuel := 1) (rs := [9]) (by kernel_rfl) (by decide) ?_
   simp only [List.forall_mem_cons, List.not_mem_nil, false_implies, implies_true, and_true]
   refine ⟨_, rfl, ?_⟩
   refine stw (ds := [.slice An43 ((m.Nodes).length) cn43, .slice Ac43 ((if (chgL m.Chunks c.A (unclaimF c.B)).2 = 0 then (chgL m.Chunks c.A (unclaimF c.B)).1 else m.Chunks).length) cc43, .slice B2_m m.Sessions.length d2_m]) rfl rfl rfl sz_26 K44 s4 rfl rfl fun w45 K45 => ?_
   refine WH.next (K45.rm s0) <| WH.tk (fuel := 0) 10 rfl (by kernel_rfl) (by kernel_rfl) (by kernel_rfl) (fun _ hK => (Ev.assign rfl)) rfl (K45.rm s0) ?_
   exact WH.dn ⟨rfl, K45⟩ rfl (by kernel_rfl)
  rintro _ w46 ⟨rfl, K46⟩
  refine WP.ret (Pst.retC rfl ⟨_, _, rfl, ⟨_, rfl, loads_box (cs := [.slice An43 ((m.Nodes).length) cn43, .slice Ac43 ((if (chgL m.Chunks c.A (unclaimF c.B)).2 = 0 then (chgL m.Chunks c.A (unclaimF c.B)).1 else m.Chunks).length) cc43, .slice B2_m m.Sessions.length d2_m]) ag_26 rfl (K46.x s0)⟩, ⟨_, _, rfl, rfl, rfl⟩⟩ ?_)
  have hd : doesM m c = (⟨m.Nodes, if (chgL m.Chunks c.A (unclaimF c.B)).2 = 0 then (chgL m.Chunks c.A (unclaimF c.B)).1 else m.Chunks, m.Sessions⟩, numL ((chgL m.Chunks c.A (unclaimF c.B)).2) (0)) := by unfold doesM; rw [doX_6 hkd]
  rw [hd]
  exact ⟨An43, cn43, Ac43, cc43, B2_m, d2_m, rfl, ((((K46.rm s6).rm s5).rm s1).rm s0)⟩
 ·
  refine WP.held (fun wS => Hp w S0 wS [rBx g4 108 [.slice B0_m m.Nodes.length d0_m, .slice B1_m m.Chunks.length d1_m, .slice B2_m m.Sessions.length d2_m, .int .i64 0, .int .i64 0], rBx g3 26 [.slice none 0 0, .slice none 0 0, .slice none 0 0], rBx g2 58 [.int .i64 c.Client, .int .i64 c.Seq, .int .i64 c.Kind, .int .i64 c.A, .int .i64 c.B, .int .i64 c.C], rBx g1 26 [.slice B0_m m.Nodes.length d0_m, .slice B1_m m.Chunks.length d1_m, .slice B2_m m.Sessions.length d2_m]]) (fun lJ wJ => lJ = [(3, .pointer (some ⟨g2, 0, none⟩)), (4, .pointer (some ⟨g3, 0, none⟩)), (6, .pointer (some ⟨g4, 0, none⟩)), (7, .func (.func 86) #[] #[])] ∧ Hp w S0 wJ [rBx g4 108 [.slice B0_m m.Nodes.length d0_m, .slice B1_m m.Chunks.length d1_m, .slice B2_m m.Sessions.length d2_m, .int .i64 0, .int .i64 0], rBx g3 26 [.slice none 0 0, .slice none 0 0, .slice none 0 0], rBx g2 58 [.int .i64 c.Client, .int .i64 c.Seq, .int .i64 c.Kind, .int .i64 c.A, .int .i64 c.B, .int .i64 c.C], rBx g1 26 [.slice B0_m m.Nodes.length d0_m, .slice B1_m m.Chunks.length d1_m, .slice B2_m m.Sessions.length d2_m]]) (by kernel_rfl) ?_ ?_
  ·
   have H36 := K4.grow (Ext.refl w4).drew
   refine WH.tk (fuel := 4) 1 rfl (by kernel_rfl) (by kernel_rfl) (by kernel_rfl) (fun _ hK => (Ev.field (q := ⟨g2, 2, none⟩) fa_58_2 rfl rfl)) rfl H36 <| WH.tk (fuel := 3) 2 rfl (by kernel_rfl) (by kernel_rfl) (by kernel_rfl) (fun _ hK => (Ev.loadBoxCell na_3 rfl (hK.x s2) rfl)) rfl H36 ?_
   refine WH.all (fuel := 2) (rs := [0]) (by kernel_rfl) (by decide) ?_
   simp only [List.forall_mem_cons, List.not_mem_nil, false_implies, implies_true, and_true]
   refine ⟨_, rfl, ?_⟩
   refine WL.call rfl rfl rfl cl_62 (commands_ok (S0 := Any) _ ) rfl ?_
   rintro _ w47 ⟨g0_47, rfl, h47⟩
   have K47 := H36.f1 h47
   refine WH.next (K47.rm s0) <| WH.all (fuel := 1) (rs := [3]) (by kernel_rfl) (by decide) ?_
   simp only [List.forall_mem_cons, List.not_mem_nil, false_implies, implies_true, and_true]
   refine ⟨_, rfl, ?_⟩
   refine ev (Ev.look (i := 7) K47 s0 rfl rfl Tryz.underlying110 Tryz.underlying3 (by rw [hkd]; rfl)) <| WH.next (K47.rm s0) <| WH.tk (fuel := 0) 4 rfl (by kernel_rfl) (by kernel_rfl) (by kernel_rfl) (fun _ hK => (Ev.assign rfl)) rfl (K47.rm s0) ?_
   exact WH.dn ⟨rfl, (K47.rm s0)⟩ rfl (by kernel_rfl)
  rintro _ w48 ⟨rfl, K48⟩
  refine rg <| mv rfl <| ev (Ev.nefn Tryz.underlying109 rfl) <| dn ?_
  refine WP.cond_end rfl (fun _h => ?_) (fun _h => absurd _h (by decide))
  refine rge <| mv rfl <| mv rfl <| ev (Ev.loadBox ag_58 rfl rfl (K48.x s2)) ?_
  have H37 := K48.push (K48.a h0_m)
  have H38 := H37.push (H37.a h1_m)
  have H39 := H38.push (H38.a h2_m)
  refine WL.call rfl rfl rfl cl_86 (cmd8_ok ((((H39.sel s0).sel s1).sel s2).sel s3) hn hc hh) rfl ?_
  rintro _ w49 ⟨An49, cn49, Ac49, cc49, rfl, K49⟩
  refine dne <| Pst.norm ?_
  refine WP.held (fun wS => Hp w S0 wS [rBx g4 108 [.slice An49 ((m.Nodes).length) cn49, .slice Ac49 ((if (forgetL m.Chunks c.A).2 = 0 then (forgetL m.Chunks c.A).1 else m.Chunks).length) cc49, .slice B2_m m.Sessions.length d2_m, .int .i64 ((forgetL m.Chunks c.A).2), .int .i64 (0)], rSl tNode An49 cn49 (m.Nodes), rSl tChunk Ac49 cc49 (if (forgetL m.Chunks c.A).2 = 0 then (forgetL m.Chunks c.A).1 else m.Chunks), rSl tSession B2_m d2_m m.Sessions, rBx g2 58 [.int .i64 c.Client, .int .i64 c.Seq, .int .i64 c.Kind, .int .i64 c.A, .int .i64 c.B, .int .i64 c.C], rBx g1 26 [.slice B0_m m.Nodes.length d0_m, .slice B1_m m.Chunks.length d1_m, .slice B2_m m.Sessions.length d2_m]]) (fun lJ wJ => lJ = [(4, .pointer (some ⟨g3, 0, none⟩)), (5, .int .i64 (numL (⟨((forgetL m.Chunks c.A).2), (0)⟩ : AAns).e (⟨((forgetL m.Chunks c.A).2), (0)⟩ : AAns).n))] ∧ Hp w S0 wJ [rBx g3 26 [.slice An49 ((m.Nodes).length) cn49, .slice Ac49 ((if (forgetL m.Chunks c.A).2 = 0 then (forgetL m.Chunks c.A).1 else m.Chunks).length) cc49, .slice B2_m m.Sessions.length d2_m], rBx g4 108 [.slice An49 ((m.Nodes).length) cn49, .slice Ac49 ((if (forgetL m.Chunks c.A).2 = 0 then (forgetL m.Chunks c.A).1 else m.Chunks).length) cc49, .slice B2_m m.Sessions.length d2_m, .int .i64 ((forgetL m.Chunks c.A).2), .int .i64 (0)], rSl tNode An49 cn49 (m.Nodes), rSl tChunk Ac49 cc49 (if (forgetL m.Chunks c.A).2 = 0 then (forgetL m.Chunks c.A).1 else m.Chunks), rSl tSession B2_m d2_m m.Sessions, rBx g2 58 [.int .i64 c.Client, .int .i64 c.Seq, .int .i64 c.Kind, .int .i64 c.A, .int .i64 c.B, .int .i64 c.C], rBx g1 26 [.slice B0_m m.Nodes.length d0_m, .slice B1_m m.Chunks.length d1_m, .slice B2_m m.Sessions.length d2_m]]) (by kernel_rfl) ?_ ?_
  ·
   have H40 := K49.grow (Ext.refl w49).drew
   refine WH.tk (fuel := 10) 0 rfl (by kernel_rfl) (by kernel_rfl) (by kernel_rfl) (fun _ hK => (Ev.move rfl)) rfl (H40.rm s4) <| WH.tk (fuel := 9) 1 rfl (by kernel_rfl) (by kernel_rfl) (by kernel_rfl) (fun _ hK => (Ev.nilCheck rfl)) rfl (H40.rm s4) ?_
   refine WH.tk (fuel := 8) 2 rfl (by kernel_rfl) (by kernel_rfl) (by kernel_rfl) (fun _ hK => (Ev.field (q := ⟨g4, 0, none⟩) fa_108_0 rfl rfl)) rfl (H40.rm s4) ?_
   refine WH.tk (fuel := 7) 3 rfl (by kernel_rfl) (by kernel_rfl) (by kernel_rfl) (fun _ hK => (Ev.loadBoxPart (cs' := [.slice An49 ((m.Nodes).length) cn49, .slice Ac49 ((if (forgetL m.Chunks c.A).2 = 0 then (forgetL m.Chunks c.A).1 else m.Chunks).length) cc49, .slice B2_m m.Sessions.length d2_m]) ag_26 rfl rfl (hK.x s0) rfl)) rfl (H40.rm s4) ?_
   refine WH.tk (fuel := 6) 4 rfl (by kernel_rfl) (by kernel_rfl) (by kernel_rfl) (fun _ hK => (Ev.move rfl)) rfl (H40.rm s4) <| WH.tk (fuel := 5) 5 rfl (by kernel_rfl) (by kernel_rfl) (by kernel_rfl) (fun _ hK => (Ev.nilCheck rfl)) rfl (H40.rm s4) ?_
   refine WH.tk (fuel := 4) 6 rfl (by kernel_rfl) (by kernel_rfl) (by kernel_rfl) (fun _ hK => (Ev.field (q := ⟨g4, 3, none⟩) fa_108_1 rfl rfl)) rfl (H40.rm s4) ?_
   refine WH.tk (fuel := 3) 7 rfl (by kernel_rfl) (by kernel_rfl) (by kernel_rfl) (fun _ hK => (Ev.loadBoxPart (cs' := [.int .i64 ((forgetL m.Chunks c.A).2), .int .i64 (0)]) ag_106 rfl rfl (hK.x s0) rfl)) rfl (H40.rm s4) ?_
   refine WH.all (fuel := 2) (rs := [8]) (by kernel_rfl) (by decide) ?_
   simp only [List.forall_mem_cons, List.not_mem_nil, false_implies, implies_true, and_true]
   refine ⟨_, rfl, ?_⟩
   refine WL.call rfl rfl rfl cl_63 (number_ok (S0 := Any) _ (⟨((forgetL m.Chunks c.A).2), (0)⟩ : AAns) (err_7 m c)) rfl ?_
   rintro _ w50 ⟨rfl, h50⟩
   have K50 := H40.c0 h50
   refine WH.next (K50.rm s4) <| WH.all (fuel := 1) (rs := [9]) (by kernel_rfl) (by decide) ?_
   simp only [List.forall_mem_cons, List.not_mem_nil, false_implies, implies_true, and_true]
   refine ⟨_, rfl, ?_⟩
   refine stw (ds := [.slice An49 ((m.Nodes).length) cn49, .slice Ac49 ((if (forgetL m.Chunks c.A).2 = 0 then (forgetL m.Chunks c.A).1 else m.Chunks).length) cc49, .slice B2_m m.Sessions.length d2_m]) rfl rfl rfl sz_26 K50 s4 rfl rfl fun w51 K51 => ?_
   refine WH.next (K51.rm s0) <| WH.tk (fuel := 0) 10 rfl (by kernel_rfl) (by kernel_rfl) (by kernel_rfl) (fun _ hK => (Ev.assign rfl)) rfl (K51.rm s0) ?_
   exact WH.dn ⟨rfl, K51⟩ rfl (by kernel_rfl)
  rintro _ w52 ⟨rfl, K52⟩
  refine WP.ret (Pst.retC rfl ⟨_, _, rfl, ⟨_, rfl, loads_box (cs := [.slice An49 ((m.Nodes).length) cn49, .slice Ac49 ((if (forgetL m.Chunks c.A).2 = 0 then (forgetL m.Chunks c.A).1 else m.Chunks).length) cc49, .slice B2_m m.Sessions.length d2_m]) ag_26 rfl (K52.x s0)⟩, ⟨_, _, rfl, rfl, rfl⟩⟩ ?_)
  have hd : doesM m c = (⟨m.Nodes, if (forgetL m.Chunks c.A).2 = 0 then (forgetL m.Chunks c.A).1 else m.Chunks, m.Sessions⟩, numL ((forgetL m.Chunks c.A).2) (0)) := by unfold doesM; rw [doX_7 hkd]
  rw [hd]
  exact ⟨An49, cn49, Ac49, cc49, B2_m, d2_m, rfl, ((((K52.rm s6).rm s5).rm s1).rm s0)⟩
 ·
  refine WP.held (fun wS => Hp w S0 wS [rBx g4 108 [.slice B0_m m.Nodes.length d0_m, .slice B1_m m.Chunks.length d1_m, .slice B2_m m.Sessions.length d2_m, .int .i64 0, .int .i64 0], rBx g3 26 [.slice none 0 0, .slice none 0 0, .slice none 0 0], rBx g2 58 [.int .i64 c.Client, .int .i64 c.Seq, .int .i64 c.Kind, .int .i64 c.A, .int .i64 c.B, .int .i64 c.C], rBx g1 26 [.slice B0_m m.Nodes.length d0_m, .slice B1_m m.Chunks.length d1_m, .slice B2_m m.Sessions.length d2_m]]) (fun lJ wJ => lJ = [(3, .pointer (some ⟨g2, 0, none⟩)), (4, .pointer (some ⟨g3, 0, none⟩)), (6, .pointer (some ⟨g4, 0, none⟩)), (7, .nilFunc)] ∧ Hp w S0 wJ [rBx g4 108 [.slice B0_m m.Nodes.length d0_m, .slice B1_m m.Chunks.length d1_m, .slice B2_m m.Sessions.length d2_m, .int .i64 0, .int .i64 0], rBx g3 26 [.slice none 0 0, .slice none 0 0, .slice none 0 0], rBx g2 58 [.int .i64 c.Client, .int .i64 c.Seq, .int .i64 c.Kind, .int .i64 c.A, .int .i64 c.B, .int .i64 c.C], rBx g1 26 [.slice B0_m m.Nodes.length d0_m, .slice B1_m m.Chunks.length d1_m, .slice B2_m m.Sessions.length d2_m]]) (by kernel_rfl) ?_ ?_
  ·
   have H41 := K4.grow (Ext.refl w4).drew
   refine WH.tk (fuel := 4) 1 rfl (by kernel_rfl) (by kernel_rfl) (by kernel_rfl) (fun _ hK => (Ev.field (q := ⟨g2, 2, none⟩) fa_58_2 rfl rfl)) rfl H41 <| WH.tk (fuel := 3) 2 rfl (by kernel_rfl) (by kernel_rfl) (by kernel_rfl) (fun _ hK => (Ev.loadBoxCell na_3 rfl (hK.x s2) rfl)) rfl H41 ?_
   refine WH.all (fuel := 2) (rs := [0]) (by kernel_rfl) (by decide) ?_
   simp only [List.forall_mem_cons, List.not_mem_nil, false_implies, implies_true, and_true]
   refine ⟨_, rfl, ?_⟩
   refine WL.call rfl rfl rfl cl_62 (commands_ok (S0 := Any) _ ) rfl ?_
   rintro _ w53 ⟨g0_53, rfl, h53⟩
   have K53 := H41.f1 h53
   refine WH.next (K53.rm s0) <| WH.all (fuel := 1) (rs := [3]) (by kernel_rfl) (by decide) ?_
   simp only [List.forall_mem_cons, List.not_mem_nil, false_implies, implies_true, and_true]
   refine ⟨_, rfl, ?_⟩
   refine ev (Ev.look0 K53 s0 rfl rfl Tryz.underlying110 Tryz.underlying3 zero_109 (by obtain ⟨k0, k1, k2, k3, k4, k5, k6, k7⟩ := hkd; have e0 : (c.Kind == 0) = false := (by simpa using k0); have e1 : (c.Kind == 1) = false := (by simpa using k1); have e2 : (c.Kind == 2) = false := (by simpa using k2); have e3 : (c.Kind == 3) = false := (by simpa using k3); have e4 : (c.Kind == 4) = false := (by simpa using k4); have e5 : (c.Kind == 5) = false := (by simpa using k5); have e6 : (c.Kind == 6) = false := (by simpa using k6); have e7 : (c.Kind == 7) = false := (by simpa using k7); simp [Instr.findNow, Instr.sameNow, e0, e1, e2, e3, e4, e5, e6, e7])) ?_
   refine WH.next (K53.rm s0) <| WH.tk (fuel := 0) 4 rfl (by kernel_rfl) (by kernel_rfl) (by kernel_rfl) (fun _ hK => (Ev.assign rfl)) rfl (K53.rm s0) ?_
   exact WH.dn ⟨rfl, (K53.rm s0)⟩ rfl (by kernel_rfl)
  rintro _ w54 ⟨rfl, K54⟩
  refine rg <| mv rfl <| ev (Ev.nenf Tryz.underlying109 rfl) <| dn ?_
  refine WP.cond_end rfl (fun _h => absurd _h (by decide)) (fun _h => ?_)
  refine rge <| mv rfl <| ev (Ev.nilCheck rfl) <| ev (Ev.field (q := ⟨g4, 3, none⟩) fa_108_1 rfl rfl) <| ev (Ev.field (q := ⟨g4, 3, none⟩) fa_106_0 rfl rfl) ?_
  refine stc rfl rfl rfl sz_88 K54 s0 rfl fun w55 K55 => ?_
  refine dne <| Pst.norm ?_
  refine WP.held (fun wS => Hp w S0 wS [rBx g4 108 [.slice B0_m m.Nodes.length d0_m, .slice B1_m m.Chunks.length d1_m, .slice B2_m m.Sessions.length d2_m, .int .i64 1, .int .i64 0], rBx g2 58 [.int .i64 c.Client, .int .i64 c.Seq, .int .i64 c.Kind, .int .i64 c.A, .int .i64 c.B, .int .i64 c.C], rBx g1 26 [.slice B0_m m.Nodes.length d0_m, .slice B1_m m.Chunks.length d1_m, .slice B2_m m.Sessions.length d2_m]]) (fun lJ wJ => lJ = [(4, .pointer (some ⟨g3, 0, none⟩)), (5, .int .i64 (numL (⟨1, 0⟩ : AAns).e (⟨1, 0⟩ : AAns).n))] ∧ Hp w S0 wJ [rBx g3 26 [.slice B0_m m.Nodes.length d0_m, .slice B1_m m.Chunks.length d1_m, .slice B2_m m.Sessions.length d2_m], rBx g4 108 [.slice B0_m m.Nodes.length d0_m, .slice B1_m m.Chunks.length d1_m, .slice B2_m m.Sessions.length d2_m, .int .i64 1, .int .i64 0], rBx g2 58 [.int .i64 c.Client, .int .i64 c.Seq, .int .i64 c.Kind, .int .i64 c.A, .int .i64 c.B, .int .i64 c.C], rBx g1 26 [.slice B0_m m.Nodes.length d0_m, .slice B1_m m.Chunks.length d1_m, .slice B2_m m.Sessions.length d2_m]]) (by kernel_rfl) ?_ ?_
  ·
   have H42 := K55.grow (Ext.refl w55).drew
   refine WH.tk (fuel := 10) 0 rfl (by kernel_rfl) (by kernel_rfl) (by kernel_rfl) (fun _ hK => (Ev.move rfl)) rfl (H42.rm s1) <| WH.tk (fuel := 9) 1 rfl (by kernel_rfl) (by kernel_rfl) (by kernel_rfl) (fun _ hK => (Ev.nilCheck rfl)) rfl (H42.rm s1) ?_
   refine WH.tk (fuel := 8) 2 rfl (by kernel_rfl) (by kernel_rfl) (by kernel_rfl) (fun _ hK => (Ev.field (q := ⟨g4, 0, none⟩) fa_108_0 rfl rfl)) rfl (H42.rm s1) ?_
   refine WH.tk (fuel := 7) 3 rfl (by kernel_rfl) (by kernel_rfl) (by kernel_rfl) (fun _ hK => (Ev.loadBoxPart (cs' := [.slice B0_m m.Nodes.length d0_m, .slice B1_m m.Chunks.length d1_m, .slice B2_m m.Sessions.length d2_m]) ag_26 rfl rfl (hK.x s0) rfl)) rfl (H42.rm s1) ?_
   refine WH.tk (fuel := 6) 4 rfl (by kernel_rfl) (by kernel_rfl) (by kernel_rfl) (fun _ hK => (Ev.move rfl)) rfl (H42.rm s1) <| WH.tk (fuel := 5) 5 rfl (by kernel_rfl) (by kernel_rfl) (by kernel_rfl) (fun _ hK => (Ev.nilCheck rfl)) rfl (H42.rm s1) ?_
   refine WH.tk (fuel := 4) 6 rfl (by kernel_rfl) (by kernel_rfl) (by kernel_rfl) (fun _ hK => (Ev.field (q := ⟨g4, 3, none⟩) fa_108_1 rfl rfl)) rfl (H42.rm s1) ?_
   refine WH.tk (fuel := 3) 7 rfl (by kernel_rfl) (by kernel_rfl) (by kernel_rfl) (fun _ hK => (Ev.loadBoxPart (cs' := [.int .i64 1, .int .i64 0]) ag_106 rfl rfl (hK.x s0) rfl)) rfl (H42.rm s1) ?_
   refine WH.all (fuel := 2) (rs := [8]) (by kernel_rfl) (by decide) ?_
   simp only [List.forall_mem_cons, List.not_mem_nil, false_implies, implies_true, and_true]
   refine ⟨_, rfl, ?_⟩
   refine WL.call rfl rfl rfl cl_63 (number_ok (S0 := Any) _ (⟨1, 0⟩ : AAns) ⟨by decide, by decide⟩) rfl ?_
   rintro _ w56 ⟨rfl, h56⟩
   have K56 := H42.c0 h56
   refine WH.next (K56.rm s1) <| WH.all (fuel := 1) (rs := [9]) (by kernel_rfl) (by decide) ?_
   simp only [List.forall_mem_cons, List.not_mem_nil, false_implies, implies_true, and_true]
   refine ⟨_, rfl, ?_⟩
   refine stw (ds := [.slice B0_m m.Nodes.length d0_m, .slice B1_m m.Chunks.length d1_m, .slice B2_m m.Sessions.length d2_m]) rfl rfl rfl sz_26 K56 s1 rfl rfl fun w57 K57 => ?_
   refine WH.next (K57.rm s0) <| WH.tk (fuel := 0) 10 rfl (by kernel_rfl) (by kernel_rfl) (by kernel_rfl) (fun _ hK => (Ev.assign rfl)) rfl (K57.rm s0) ?_
   exact WH.dn ⟨rfl, K57⟩ rfl (by kernel_rfl)
  rintro _ w58 ⟨rfl, K58⟩
  refine WP.ret (Pst.retC rfl ⟨_, _, rfl, ⟨_, rfl, loads_box (cs := [.slice B0_m m.Nodes.length d0_m, .slice B1_m m.Chunks.length d1_m, .slice B2_m m.Sessions.length d2_m]) ag_26 rfl (K58.x s0)⟩, ⟨_, _, rfl, rfl, rfl⟩⟩ ?_)
  have H43 := K58.push (K58.a h0_m)
  have H44 := H43.push (H43.a h1_m)
  have H45 := H44.push (H44.a h2_m)
  have hd : doesM m c = (⟨m.Nodes, m.Chunks, m.Sessions⟩, numL (1) (0)) := by unfold doesM; rw [doX_8 hkd]
  rw [hd]
  exact ⟨B0_m, d0_m, B1_m, d1_m, B2_m, d2_m, rfl, (((((((H45.rm s6).rm s5).rm s4).rm s3).sel s0).sel s1).sel s2)⟩

end Go.Proofs.YtldldcafklophaaGreat
