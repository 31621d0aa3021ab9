/- Contracts of functions: what each call hands back, and that it leaves all that was there as it was. -/
import Derived.Test.YtjcklpooaaaglaaGreatrG9
set_option maxRecDepth 4000
set_option linter.all false
namespace Go.Proofs.YtjcklpooaaaglaaGreat
open Go.RowKit

abbrev leaseOf (c : AChunk) (fr to_ u : Int) : ALease := ⟨c.ID, c.Version, fr, to_, u⟩
abbrev orderOf (c : AChunk) (fr to_ u : Int) : AOrder := ⟨0, c.ID, c.Version, c.Sum, fr, to_, u⟩
def copyB (ls : List ALease) (each all : Int) (c : AChunk) (fr to_ u : Int) : Bool := decide (startE ls (leaseOf c fr to_ u) each all = 0)
def copyL (ls : List ALease) (each all : Int) (c : AChunk) (fr to_ u : Int) : List ALease := if copyB ls each all c fr to_ u = true then ls ++ [leaseOf c fr to_ u] else ls
def copyO (ls : List ALease) (os : List AOrder) (each all : Int) (c : AChunk) (fr to_ u : Int) : List AOrder := if copyB ls each all c fr to_ u = true then os ++ [orderOf c fr to_ u] else os
theorem copy_no {ls : List ALease} {each all : Int} {c : AChunk} {fr to_ u : Int} (h : ¬ startE ls (leaseOf c fr to_ u) each all = 0) : copyB ls each all c fr to_ u = false ∧ copyL ls each all c fr to_ u = ls ∧ ∀ os, copyO ls os each all c fr to_ u = os := by
  have hb : copyB ls each all c fr to_ u = false := decide_eq_false h
  refine ⟨hb, if_neg (by rw [hb]; decide), fun os => if_neg (by rw [hb]; decide)⟩
theorem copy_yes {ls : List ALease} {each all : Int} {c : AChunk} {fr to_ u : Int} (h : startE ls (leaseOf c fr to_ u) each all = 0) : copyB ls each all c fr to_ u = true ∧ copyL ls each all c fr to_ u = startL ls (leaseOf c fr to_ u) each all ∧ ∀ os, copyO ls os each all c fr to_ u = os ++ [orderOf c fr to_ u] := by
  have hb : copyB ls each all c fr to_ u = true := decide_eq_true h
  refine ⟨hb, ?_, fun os => if_pos hb⟩
  unfold copyL startL; rw [if_pos hb, if_pos h]

theorem fa_81_3 : FieldAt Tryz.prog 81 3 12 := fun _ _ => by kernel_rfl
theorem fa_81_2 : FieldAt Tryz.prog 81 2 6 := fun _ _ => by kernel_rfl
theorem bl_77_0I_1I_2I_3I_4I (a0 : Int) (a1 : Int) (a2 : Int) (a3 : Int) (a4 : Int) : Tryz.prog.built 77 [(0, .int .i64 a0), (1, .int .i64 a1), (2, .int .i64 a2), (3, .int .i64 a3), (4, .int .i64 a4)] = some #[.int .i64 a0, .int .i64 a1, .int .i64 a2, .int .i64 a3, .int .i64 a4] := by kernel_rfl
theorem cl_137 : Callable Tryz.prog 137 := fun _ _ => by kernel_rfl
theorem fa_81_6 : FieldAt Tryz.prog 81 6 15 := fun _ _ => by kernel_rfl
theorem bl_50_0I_1I_2I_3I_4I_5I_6I (a0 : Int) (a1 : Int) (a2 : Int) (a3 : Int) (a4 : Int) (a5 : Int) (a6 : Int) : Tryz.prog.built 50 [(0, .int .i64 a0), (1, .int .i64 a1), (2, .int .i64 a2), (3, .int .u32 a3), (4, .int .i64 a4), (5, .int .i64 a5), (6, .int .i64 a6)] = some #[.int .i64 a0, .int .i64 a1, .int .i64 a2, .int .u32 a3, .int .i64 a4, .int .i64 a5, .int .i64 a6] := by kernel_rfl
theorem bs_29_1_IIIIIII (a0 : Int) (a1 : Int) (a2 : Int) (a3 : Int) (a4 : Int) (a5 : Int) (a6 : Int) : ∀ w, (Instr.buildSlice 29 1 (List.toArray [(0, .agg #[.int .i64 a0, .int .i64 a1, .int .i64 a2, .int .u32 a3, .int .i64 a4, .int .i64 a5, .int .i64 a6])])).run Tryz.prog w = .ok (.slice (some ⟨w.heap.size, 0, none⟩) 1 1) (w.alloc (.cells (List.toArray [.int .i64 a0, .int .i64 a1, .int .i64 a2, .int .u32 a3, .int .i64 a4, .int .i64 a5, .int .i64 a6]) 50)) := fun _ => by kernel_rfl
set_option maxHeartbeats 1000000 in
theorem ccopies_ok {b w : World} {S : Nat → Prop} {F : List Res} {g : Nat} {v0 v2 v3 v4 v5 v6 v9 v11 v13 v14 v16 : Value} {AL AO Bc : Option Addr} {cL cO dc : Nat} {ls : List ALease} {os : List AOrder} {each all hold now : Int} (H0 : Hp b S w (rBx g 81 [v0, .slice AL ls.length cL, v2, v3, v4, v5, v6, .int .i64 each, .int .i64 all, v9, .int .i64 hold, v11, .int .i64 now, v13, v14, .slice AO os.length cO, v16] :: rOwn tLease 77 AL cL ls :: rOwn tOrder 50 AO cO os :: F)) (c : AChunk) (fr to_ : Int) (hn : ls.length ≤ 100) (ho : os.length ≤ 100000) (hu : -1099511627776 ≤ now ∧ now ≤ 4398046511104 ∧ -1099511627776 ≤ hold ∧ hold ≤ 1099511627776) :
    Rets Tryz.prog 87 #[.pointer (some ⟨g, 0, none⟩), .agg #[.int .i64 c.ID, .int .i64 c.Version, .int .u32 c.Sum, .slice Bc c.Holders.length dc], .int .i64 fr, .int .i64 to_] w fun v w' => v = .bool (copyB ls each all c fr to_ (now + hold)) ∧ ∃ AL' cL' AO' cO', Hp b S w' (rBx g 81 [v0, .slice AL' ((copyL ls each all c fr to_ (now + hold)).length) cL', v2, v3, v4, v5, v6, .int .i64 each, .int .i64 all, v9, .int .i64 hold, v11, .int .i64 now, v13, v14, .slice AO' ((copyO ls os each all c fr to_ (now + hold)).length) cO', v16] :: rOwn tLease 77 AL' cL' (copyL ls each all c fr to_ (now + hold)) :: rOwn tOrder 50 AO' cO' (copyO ls os each all c fr to_ (now + hold)) :: F) := by
 refine WP.enter Tryz.func87 rfl Tryz.ntmps87 rfl <| rg ?_
 refine bx (cs := [.int .i64 c.ID, .int .i64 c.Version, .int .u32 c.Sum, .slice Bc c.Holders.length dc]) rfl rfl H0 fun g1 w1 K1 => ?_
 refine as_ rfl <| dn <| WP.draw (by kernel_rfl) (by kernel_rfl) <| WQ.ev (Ev.move rfl) rfl <| WQ.ev (Ev.nilCheck rfl) rfl <| WQ.ev (Ev.field (q := ⟨g, 12, none⟩) fa_81_3 rfl rfl) rfl ?_
 refine WQ.ev (Ev.loadBoxCell na_3 rfl (K1.x s1) rfl) rfl <| WQ.ev (Ev.move rfl) rfl <| WQ.ev (Ev.nilCheck rfl) rfl <| WQ.ev (Ev.field (q := ⟨g, 6, none⟩) fa_81_2 rfl rfl) rfl ?_
 refine WQ.ev (Ev.field (q := ⟨g, 10, none⟩) fa_33_4 rfl rfl) rfl <| WQ.ev (Ev.loadBoxCell na_3 rfl (K1.x s1) rfl) rfl <| WQ.ev (Ev.add rfl rfl (I64.mk (by omega) (by omega))) rfl ?_
 refine WQ.ev (Ev.assign rfl) rfl ?_
 refine WQ.done fun w2 e2 => ?_
 have K2 := K1.grow e2
 refine WP.held (fun wS => Hp b S wS (rBx g1 53 [.int .i64 c.ID, .int .i64 c.Version, .int .u32 c.Sum, .slice Bc c.Holders.length dc] :: rBx g 81 [v0, .slice AL ls.length cL, v2, v3, v4, v5, v6, .int .i64 each, .int .i64 all, v9, .int .i64 hold, v11, .int .i64 now, v13, v14, .slice AO os.length cO, v16] :: rOwn tLease 77 AL cL ls :: rOwn tOrder 50 AO cO os :: F)) (fun lJ wJ => ∃ (Aj1 : Option Addr) (cj1 : Nat), lJ = [(0, .pointer (some ⟨g, 0, none⟩)), (2, .int .i64 fr), (3, .int .i64 to_), (5, .pointer (some ⟨g1, 0, none⟩)), (9, .int .i64 (now + hold)), (10, .slice Aj1 ((startL ls (⟨c.ID, c.Version, fr, to_, now + hold⟩ : ALease) each all).length) cj1), (11, .int .i64 (startE ls (⟨c.ID, c.Version, fr, to_, now + hold⟩ : ALease) each all))] ∧ Hp b S wJ (rOwn tLease 77 Aj1 cj1 (startL ls (⟨c.ID, c.Version, fr, to_, now + hold⟩ : ALease) each all) :: rBx g1 53 [.int .i64 c.ID, .int .i64 c.Version, .int .u32 c.Sum, .slice Bc c.Holders.length dc] :: rBx g 81 [v0, .slice AL ls.length cL, v2, v3, v4, v5, v6, .int .i64 each, .int .i64 all, v9, .int .i64 hold, v11, .int .i64 now, v13, v14, .slice AO os.length cO, v16] :: rOwn tLease 77 AL cL ls :: rOwn tOrder 50 AO cO os :: F)) (by kernel_rfl) ?_ ?_
 ·
  have H1 := K2.grow (Ext.refl w2).drew
  refine WH.ns (by kernel_rfl) fun hns => ?_
  refine WH.tn (fuel := 28) 0 (LM 29 1) hns rfl (by kernel_rfl) (fun _ hK => (Ev.move rfl)) rfl H1 <| WH.tn (fuel := 27) 1 (LM 29 3) hns rfl (by kernel_rfl) (fun _ hK => (Ev.nilCheck rfl)) rfl H1 ?_
  refine WH.tn (fuel := 26) 2 (LM 29 7) hns rfl (by kernel_rfl) (fun _ hK => (Ev.field (q := ⟨g, 0, none⟩) fa_81_0 rfl rfl)) rfl H1 <| WH.tn (fuel := 25) 3 (LM 29 15) hns rfl (by kernel_rfl) (fun _ hK => (Ev.field (q := ⟨g, 1, none⟩) fa_31_1 rfl rfl)) rfl H1 ?_
  refine WH.tn (fuel := 24) 4 (LM 29 31) hns rfl (by kernel_rfl) (fun _ hK => (Ev.loadBoxCell na_28 rfl (hK.x s1) rfl)) rfl H1 <| WH.tn (fuel := 23) 5 (LM 29 63) hns rfl (by kernel_rfl) (fun _ hK => (Ev.field (q := ⟨g1, 0, none⟩) fa_53_0 rfl rfl)) rfl H1 ?_
  refine WH.tn (fuel := 22) 6 (LM 29 127) hns rfl (by kernel_rfl) (fun _ hK => (Ev.loadBoxCell na_3 rfl (hK.x s0) rfl)) rfl H1 <| WH.tn (fuel := 21) 7 (LM 29 255) hns rfl (by kernel_rfl) (fun _ hK => (Ev.field (q := ⟨g1, 1, none⟩) fa_53_1 rfl rfl)) rfl H1 ?_
  refine WH.tn (fuel := 20) 8 (LM 29 511) hns rfl (by kernel_rfl) (fun _ hK => (Ev.loadBoxCell na_3 rfl (hK.x s0) rfl)) rfl H1 <| WH.tn (fuel := 19) 9 (LM 29 1023) hns rfl (by kernel_rfl) (fun _ hK => (Ev.move rfl)) rfl H1 ?_
  refine WH.tn (fuel := 18) 10 (LM 29 2047) hns rfl (by kernel_rfl) (fun _ hK => (Ev.move rfl)) rfl H1 <| WH.tn (fuel := 17) 11 (LM 29 4095) hns rfl (by kernel_rfl) (fun _ hK => (Ev.move rfl)) rfl H1 ?_
  refine WH.tn (fuel := 16) 12 (LM 29 8191) hns rfl (by kernel_rfl) (fun _ hK => (Ev.build (vs := [(0, .int .i64 c.ID), (1, .int .i64 c.Version), (2, .int .i64 fr), (3, .int .i64 to_), (4, .int .i64 (now + hold))]) (cs := [.int .i64 c.ID, .int .i64 c.Version, .int .i64 fr, .int .i64 to_, .int .i64 (now + hold)]) rfl (by apply bl_77_0I_1I_2I_3I_4I))) rfl H1 ?_
  refine WH.tn (fuel := 15) 13 (LM 29 16383) hns rfl (by kernel_rfl) (fun _ hK => (Ev.move rfl)) rfl H1 <| WH.tn (fuel := 14) 14 (LM 29 32767) hns rfl (by kernel_rfl) (fun _ hK => (Ev.nilCheck rfl)) rfl H1 ?_
  refine WH.tn (fuel := 13) 15 (LM 29 65535) hns rfl (by kernel_rfl) (fun _ hK => (Ev.field (q := ⟨g, 6, none⟩) fa_81_2 rfl rfl)) rfl H1 <| WH.tn (fuel := 12) 16 (LM 29 131071) hns rfl (by kernel_rfl) (fun _ hK => (Ev.field (q := ⟨g, 7, none⟩) fa_33_1 rfl rfl)) rfl H1 ?_
  refine WH.tn (fuel := 11) 17 (LM 29 262143) hns rfl (by kernel_rfl) (fun _ hK => (Ev.loadBoxCell na_3 rfl (hK.x s1) rfl)) rfl H1 <| WH.tn (fuel := 10) 18 (LM 29 524287) hns rfl (by kernel_rfl) (fun _ hK => (Ev.move rfl)) rfl H1 ?_
  refine WH.tn (fuel := 9) 19 (LM 29 1048575) hns rfl (by kernel_rfl) (fun _ hK => (Ev.nilCheck rfl)) rfl H1 <| WH.tn (fuel := 8) 20 (LM 29 2097151) hns rfl (by kernel_rfl) (fun _ hK => (Ev.field (q := ⟨g, 6, none⟩) fa_81_2 rfl rfl)) rfl H1 ?_
  refine WH.tn (fuel := 7) 21 (LM 29 4194303) hns rfl (by kernel_rfl) (fun _ hK => (Ev.field (q := ⟨g, 8, none⟩) fa_33_2 rfl rfl)) rfl H1 <| WH.tn (fuel := 6) 22 (LM 29 8388607) hns rfl (by kernel_rfl) (fun _ hK => (Ev.loadBoxCell na_3 rfl (hK.x s1) rfl)) rfl H1 ?_
  refine WH.one (fuel := 5) 23 (by kernel_rfl) rfl <| WL.call rfl rfl rfl cl_137 (thStart_ok _ (H1.o s2) (⟨c.ID, c.Version, fr, to_, now + hold⟩ : ALease) each all (by first | omega | (simp; done) | decide)) rfl ?_
  rintro _ w3 ⟨A0_3, c0_3, rfl, h3⟩
  have K3 := H1.f1 h3
  have hL3_0 := (K3.o s0).len_le
  have k1 := (K3.rm s0)
  refine WH.next k1 <| WH.tn (fuel := 4) 24 (LM 29 33554431) hns rfl (by kernel_rfl) (fun _ hK => (Ev.move rfl)) rfl k1 <| WH.tn (fuel := 3) 25 (LM 29 67108863) hns rfl (by kernel_rfl) (fun _ hK => (Ev.extract (vs := [.slice A0_3 ((startL ls (⟨c.ID, c.Version, fr, to_, now + hold⟩ : ALease) each all).length) c0_3, .int .i64 (startE ls (⟨c.ID, c.Version, fr, to_, now + hold⟩ : ALease) each all)]) rfl rfl)) rfl k1 ?_
  refine WH.tn (fuel := 2) 26 (LM 29 134217727) hns rfl (by kernel_rfl) (fun _ hK => (Ev.extract (vs := [.slice A0_3 ((startL ls (⟨c.ID, c.Version, fr, to_, now + hold⟩ : ALease) each all).length) c0_3, .int .i64 (startE ls (⟨c.ID, c.Version, fr, to_, now + hold⟩ : ALease) each all)]) rfl rfl)) rfl k1 ?_
  refine WH.tn (fuel := 1) 27 (LM 29 268435455) hns rfl (by kernel_rfl) (fun _ hK => (Ev.assign rfl)) rfl k1 <| WH.tn (fuel := 0) 28 (LM 29 536870911) hns rfl (by kernel_rfl) (fun _ hK => (Ev.assign rfl)) rfl k1 ?_
  exact WH.dn ⟨A0_3, c0_3, rfl, K3⟩ rfl (by kernel_rfl)
 rintro _ w4 ⟨Aj1, cj1, rfl, K4⟩
 refine WP.seq <| rg <| mv rfl <| ev (Ev.neq rfl rfl) <| dn ?_
 refine WP.cond_end rfl (fun hc50 => ?_) (fun hc50 => ?_)
 ·
  replace hc50 := not_dec_t hc50
  refine rg <| as_ rfl <| dn ?_
  refine WP.ret (Pst.then_ret (Pst.body_ret rfl rfl rfl ?_))
  have H2 := ((K4.rm s1).rm s0)
  have hcn := copy_no (c := c) (fr := fr) (to_ := to_) (u := now + hold) hc50
  exact ⟨by rw [hcn.1]; rfl, _, _, _, _, by rw [hcn.2.1, hcn.2.2 os]; exact H2⟩
 replace hc50 := not_dec_f hc50
 have hsl : (startL ls (leaseOf c fr to_ (now + hold)) each all).length ≤ ls.length + 1 := by unfold startL; split <;> simp
 refine WP.skip (Pst.norm ?_)
 refine rg <| mv rfl <| mv rfl <| ev (Ev.nilCheck rfl) <| ev (Ev.field (q := ⟨g, 0, none⟩) fa_81_0 rfl rfl) <| ev (Ev.field (q := ⟨g, 1, none⟩) fa_31_1 rfl rfl) ?_
 refine stc rfl rfl rfl sz_28 K4 s2 rfl fun w5 K5 => ?_
 refine dn ?_
 refine WP.held (fun wS => Hp b S wS (rOwn tLease 77 Aj1 cj1 (startL ls (⟨c.ID, c.Version, fr, to_, now + hold⟩ : ALease) each all) :: rBx g1 53 [.int .i64 c.ID, .int .i64 c.Version, .int .u32 c.Sum, .slice Bc c.Holders.length dc] :: rOwn tLease 77 AL cL ls :: F)) (fun lJ wJ => ∃ (Aj2 : Option Addr) (cj2 : Nat), lJ = [] ∧ Hp b S wJ (rBx g 81 [v0, .slice Aj1 ((startL ls (⟨c.ID, c.Version, fr, to_, now + hold⟩ : ALease) each all).length) cj1, v2, v3, v4, v5, v6, .int .i64 each, .int .i64 all, v9, .int .i64 hold, v11, .int .i64 now, v13, v14, .slice Aj2 ((os ++ ([(⟨0, c.ID, c.Version, c.Sum, fr, to_, now + hold⟩ : AOrder)] : List AOrder)).length) cj2, v16] :: rOwn tOrder 50 Aj2 cj2 (os ++ ([(⟨0, c.ID, c.Version, c.Sum, fr, to_, now + hold⟩ : AOrder)] : List AOrder)) :: rOwn tLease 77 Aj1 cj1 (startL ls (⟨c.ID, c.Version, fr, to_, now + hold⟩ : ALease) each all) :: rBx g1 53 [.int .i64 c.ID, .int .i64 c.Version, .int .u32 c.Sum, .slice Bc c.Holders.length dc] :: rOwn tLease 77 AL cL ls :: F)) (by kernel_rfl) ?_ ?_
 ·
  have H3 := K5.grow (Ext.refl w5).drew
  refine WH.ns (by kernel_rfl) fun hns => ?_
  have k2 := ((H3.rm s4).rm s0)
  refine WH.tn (fuel := 19) 0 (LM 20 1) hns rfl (by kernel_rfl) (fun _ hK => (Ev.move rfl)) rfl k2 <| WH.tn (fuel := 18) 1 (LM 20 3) hns rfl (by kernel_rfl) (fun _ hK => (Ev.move rfl)) rfl k2 ?_
  refine WH.tn (fuel := 17) 2 (LM 20 7) hns rfl (by kernel_rfl) (fun _ hK => (Ev.nilCheck rfl)) rfl k2 <| WH.tn (fuel := 16) 3 (LM 20 15) hns rfl (by kernel_rfl) (fun _ hK => (Ev.field (q := ⟨g, 15, none⟩) fa_81_6 rfl rfl)) rfl k2 ?_
  refine WH.tn (fuel := 15) 5 (LM 20 47) hns rfl (by kernel_rfl) (fun _ hK => (Ev.field (q := ⟨g1, 0, none⟩) fa_53_0 rfl rfl)) rfl k2 <| WH.tn (fuel := 14) 6 (LM 20 111) hns rfl (by kernel_rfl) (fun _ hK => (Ev.loadBoxCell na_3 rfl (hK.x s1) rfl)) rfl k2 ?_
  refine WH.tn (fuel := 13) 7 (LM 20 239) hns rfl (by kernel_rfl) (fun _ hK => (Ev.field (q := ⟨g1, 1, none⟩) fa_53_1 rfl rfl)) rfl k2 <| WH.tn (fuel := 12) 8 (LM 20 495) hns rfl (by kernel_rfl) (fun _ hK => (Ev.loadBoxCell na_3 rfl (hK.x s1) rfl)) rfl k2 ?_
  refine WH.tn (fuel := 11) 9 (LM 20 1007) hns rfl (by kernel_rfl) (fun _ hK => (Ev.field (q := ⟨g1, 2, none⟩) fa_53_2 rfl rfl)) rfl k2 <| WH.tn (fuel := 10) 10 (LM 20 2031) hns rfl (by kernel_rfl) (fun _ hK => (Ev.loadBoxCell na_48 rfl (hK.x s1) rfl)) rfl k2 ?_
  refine WH.tn (fuel := 9) 11 (LM 20 4079) hns rfl (by kernel_rfl) (fun _ hK => (Ev.move rfl)) rfl k2 <| WH.tn (fuel := 8) 12 (LM 20 8175) hns rfl (by kernel_rfl) (fun _ hK => (Ev.move rfl)) rfl k2 ?_
  refine WH.tn (fuel := 7) 13 (LM 20 16367) hns rfl (by kernel_rfl) (fun _ hK => (Ev.move rfl)) rfl k2 <| WH.tn (fuel := 6) 14 (LM 20 32751) hns rfl (by kernel_rfl) (fun _ hK => (Ev.build (vs := [(0, .int .i64 0), (1, .int .i64 c.ID), (2, .int .i64 c.Version), (3, .int .u32 c.Sum), (4, .int .i64 fr), (5, .int .i64 to_), (6, .int .i64 (now + hold))]) (cs := [.int .i64 0, .int .i64 c.ID, .int .i64 c.Version, .int .u32 c.Sum, .int .i64 fr, .int .i64 to_, .int .i64 (now + hold)]) rfl (by apply bl_50_0I_1I_2I_3I_4I_5I_6I))) rfl k2 ?_
  refine WH.join (fun lJ wJ => ∃ (g2 : Nat), lJ = [(56, .pointer (some ⟨g, 0, none⟩)), (60, .slice AO os.length cO), (71, .slice (some ⟨g2, 0, none⟩) (([(⟨0, c.ID, c.Version, c.Sum, fr, to_, now + hold⟩ : AOrder)] : List AOrder).length) 1)] ∧ Hp b S wJ (rOwn tOrder 50 (some ⟨g2, 0, none⟩) 1 ([(⟨0, c.ID, c.Version, c.Sum, fr, to_, now + hold⟩ : AOrder)] : List AOrder) :: rBx g 81 [v0, .slice Aj1 ((startL ls (⟨c.ID, c.Version, fr, to_, now + hold⟩ : ALease) each all).length) cj1, v2, v3, v4, v5, v6, .int .i64 each, .int .i64 all, v9, .int .i64 hold, v11, .int .i64 now, v13, v14, .slice AO os.length cO, v16] :: rOwn tLease 77 Aj1 cj1 (startL ls (⟨c.ID, c.Version, fr, to_, now + hold⟩ : ALease) each all) :: rBx g1 53 [.int .i64 c.ID, .int .i64 c.Version, .int .u32 c.Sum, .slice Bc c.Holders.length dc] :: rOwn tLease 77 AL cL ls :: rOwn tOrder 50 AO cO os :: F)) 4 (LM 20 65535) ?_ fun hS1 => ?_
  ·
   rintro _ w10 ⟨g2, rfl, K10⟩
   refine WH.one (fuel := 3) 16 (by kernel_rfl) rfl ?_
   refine ap (xs := os) (ys := ([(⟨0, c.ID, c.Version, c.Sum, fr, to_, now + hold⟩ : AOrder)] : List AOrder)) K10 s5 rfl rfl (K10.o s0) Tryz.underlying29 ei_50 (by first | omega | (simp; omega) | (simp; done)) (by simp) rfl fun Ap2 cp2 w11 K11 => ?_
   have k7 := (((K11.rm s2).rm s1).rm s0)
   refine WH.next k7 <| WH.tn (fuel := 2) 17 (LM 20 262143) hns rfl (by kernel_rfl) (fun _ hK => (Ev.nilCheck rfl)) rfl k7 <| WH.tn (fuel := 1) 18 (LM 20 524287) hns rfl (by kernel_rfl) (fun _ hK => (Ev.field (q := ⟨g, 15, none⟩) fa_81_6 rfl rfl)) rfl k7 ?_
   refine WH.one (fuel := 0) 19 (by kernel_rfl) rfl ?_
   refine stc rfl rfl rfl sz_29 K11 s2 rfl fun w12 K12 => ?_
   have k8 := (((K12.rm s2).rm s1).rm s0)
   refine WH.next k8 ?_
   exact WH.dn ⟨Ap2, cp2, rfl, (K12.rm s2)⟩ rfl (by kernel_rfl)
  refine WH.two (fuel := 5) 4 15 (by kernel_rfl) rfl rfl ?_ ?_
  ·
   refine ev (Ev.loadBoxCell na_29 rfl (H3.x s0) rfl) <| WH.next k2 <| WH.one (fuel := 4) 15 (by kernel_rfl) rfl ?_
   refine bs1 (τ := tOrder) (x := (⟨0, c.ID, c.Version, c.Sum, fr, to_, now + hold⟩ : AOrder)) (vs := [(0, .agg #[.int .i64 0, .int .i64 c.ID, .int .i64 c.Version, .int .u32 c.Sum, .int .i64 fr, .int .i64 to_, .int .i64 (now + hold)])]) (cs := [.int .i64 0, .int .i64 c.ID, .int .i64 c.Version, .int .u32 c.Sum, .int .i64 fr, .int .i64 to_, .int .i64 (now + hold)]) rfl (by intro _; apply bs_29_1_IIIIIII) rfl H3 (fun _ _ => rfl) fun g4 w13 K13 => ?_
   have k9 := (((K13.rm s5).rm s1).rm s0)
   exact WH.kj hS1 (by kernel_rfl) k9 ⟨g4, rfl, K13⟩ rfl
  ·
   refine bs1 (τ := tOrder) (x := (⟨0, c.ID, c.Version, c.Sum, fr, to_, now + hold⟩ : AOrder)) (vs := [(0, .agg #[.int .i64 0, .int .i64 c.ID, .int .i64 c.Version, .int .u32 c.Sum, .int .i64 fr, .int .i64 to_, .int .i64 (now + hold)])]) (cs := [.int .i64 0, .int .i64 c.ID, .int .i64 c.Version, .int .u32 c.Sum, .int .i64 fr, .int .i64 to_, .int .i64 (now + hold)]) rfl (by intro _; apply bs_29_1_IIIIIII) rfl H3 (fun _ _ => rfl) fun g5 w14 K14 => ?_
   have k10 := (((K14.rm s5).rm s1).rm s0)
   refine WH.next k10 <| WH.one (fuel := 4) 4 (by kernel_rfl) rfl <| ev (Ev.loadBoxCell na_29 rfl (K14.x s1) rfl) ?_
   exact WH.kj hS1 (by kernel_rfl) k10 ⟨g5, rfl, K14⟩ rfl
 rintro _ w15 ⟨Aj2, cj2, rfl, K15⟩
 refine rg <| as_ rfl <| dn ?_
 refine WP.ret (Pst.body_ret rfl rfl rfl ?_)
 have H4 := ((K15.rm s4).rm s3)
 have hcy := copy_yes (c := c) (fr := fr) (to_ := to_) (u := now + hold) hc50
 exact ⟨by rw [hcy.1]; rfl, _, _, _, _, by rw [hcy.2.1, hcy.2.2 os]; exact (((H4.sel s1).sel s2).sel s2)⟩

end Go.Proofs.YtjcklpooaaaglaaGreat
set_option maxRecDepth 4000
set_option linter.all false
namespace Go.Proofs.YtjcklpooaaaglaaGreat
open Go.RowKit

def balQ (ks seen : List AChunk) (ns : List ANode) (alive : List Int) (thr : Int) : Bool := moveB seen ns alive thr && findB ks (moveO seen ns alive thr).Chunk
def balL (ls : List ALease) (ks seen : List AChunk) (ns : List ANode) (alive : List Int) (thr each all u : Int) : List ALease := if balQ ks seen ns alive thr = true then copyL ls each all (findC ks (moveO seen ns alive thr).Chunk) (moveO seen ns alive thr).From (moveO seen ns alive thr).To u else ls
def balO (ls : List ALease) (os : List AOrder) (ks seen : List AChunk) (ns : List ANode) (alive : List Int) (thr each all u : Int) : List AOrder := if balQ ks seen ns alive thr = true then copyO ls os each all (findC ks (moveO seen ns alive thr).Chunk) (moveO seen ns alive thr).From (moveO seen ns alive thr).To u else os

theorem fa_81_5 : FieldAt Tryz.prog 81 5 14 := fun _ _ => by kernel_rfl
theorem fa_81_4 : FieldAt Tryz.prog 81 4 13 := fun _ _ => by kernel_rfl
theorem cl_89 : Callable Tryz.prog 89 := fun _ _ => by kernel_rfl
theorem cl_25 : Callable Tryz.prog 25 := fun _ _ => by kernel_rfl
theorem fa_50_4 : FieldAt Tryz.prog 50 4 4 := fun _ _ => by kernel_rfl
theorem cl_87 : Callable Tryz.prog 87 := fun _ _ => by kernel_rfl
set_option maxHeartbeats 1000000 in
theorem rbal_ok {b w : World} {S : Nat → Prop} {F : List Res} {g : Nat} {v0 v2 v5 v6 v9 v16 : Value} {AL : Option Addr} {cL : Nat} {ls : List ALease} {AO : Option Addr} {cO : Nat} {os : List AOrder} {AN : Option Addr} {cN : Nat} {ns : List ANode} {AK : Option Addr} {cK : Nat} {ks : List AChunk} {AV : Option Addr} {cV : Nat} {alive : List Int} {AS : Option Addr} {cS : Nat} {seen : List AChunk} {each all hold thr now : Int} (H0 : Hp b S w (rBx g 81 [v0, .slice AL ls.length cL, v2, .slice AN ns.length cN, .slice AK ks.length cK, v5, v6, .int .i64 each, .int .i64 all, v9, .int .i64 hold, .int .i64 thr, .int .i64 now, .slice AV alive.length cV, .slice AS seen.length cS, .slice AO os.length cO, v16] :: rOwn tLease 77 AL cL ls :: rOwn tOrder 50 AO cO os :: rSl tNode AN cN ns :: rSl tChunk AK cK ks :: rSl tInt AV cV alive :: rSl tChunk AS cS seen :: F)) (hl : ls.length ≤ 100) (ho : os.length ≤ 100000) (hn : ns.length ≤ 1000) (hc : ks.length ≤ 1000) (hs : seen.length ≤ 1000) (hk : ∀ x ∈ ks, x.Holders.length ≤ 100000) (hh : ∀ x ∈ seen, x.Holders.length ≤ 100000) (hu : -1099511627776 ≤ now ∧ now ≤ 4398046511104 ∧ -1099511627776 ≤ hold ∧ hold ≤ 1099511627776) :
    Rets Tryz.prog 42 #[.pointer (some ⟨g, 0, none⟩)] w fun v w' => v = .tuple #[] ∧ ∃ AL' cL' AO' cO', Hp b S w' (rBx g 81 [v0, .slice AL' ((balL ls ks seen ns alive thr each all (now + hold)).length) cL', v2, .slice AN ns.length cN, .slice AK ks.length cK, v5, v6, .int .i64 each, .int .i64 all, v9, .int .i64 hold, .int .i64 thr, .int .i64 now, .slice AV alive.length cV, .slice AS seen.length cS, .slice AO' ((balO ls os ks seen ns alive thr each all (now + hold)).length) cO', v16] :: rOwn tLease 77 AL' cL' (balL ls ks seen ns alive thr each all (now + hold)) :: rOwn tOrder 50 AO' cO' (balO ls os ks seen ns alive thr each all (now + hold)) :: rSl tNode AN cN ns :: rSl tChunk AK cK ks :: rSl tInt AV cV alive :: rSl tChunk AS cS seen :: F) := by
 refine WP.enter Tryz.func42 rfl Tryz.ntmps42 rfl ?_
 refine WP.held (fun wS => Hp b S wS (rBx g 81 [v0, .slice AL ls.length cL, v2, .slice AN ns.length cN, .slice AK ks.length cK, v5, v6, .int .i64 each, .int .i64 all, v9, .int .i64 hold, .int .i64 thr, .int .i64 now, .slice AV alive.length cV, .slice AS seen.length cS, .slice AO os.length cO, v16] :: rOwn tLease 77 AL cL ls :: rOwn tOrder 50 AO cO os :: rSl tNode AN cN ns :: rSl tChunk AK cK ks :: rSl tInt AV cV alive :: rSl tChunk AS cS seen :: F)) (fun lJ wJ => ∃ (gj1 : Nat), lJ = [(0, .pointer (some ⟨g, 0, none⟩)), (2, .pointer (some ⟨gj1, 0, none⟩)), (3, .bool (moveB seen ns alive thr))] ∧ Hp b S wJ (rBx gj1 50 [.int .i64 ((moveO seen ns alive thr).Kind), .int .i64 ((moveO seen ns alive thr).Chunk), .int .i64 ((moveO seen ns alive thr).Version), .int .u32 ((moveO seen ns alive thr).Sum), .int .i64 ((moveO seen ns alive thr).From), .int .i64 ((moveO seen ns alive thr).To), .int .i64 ((moveO seen ns alive thr).Until)] :: rBx g 81 [v0, .slice AL ls.length cL, v2, .slice AN ns.length cN, .slice AK ks.length cK, v5, v6, .int .i64 each, .int .i64 all, v9, .int .i64 hold, .int .i64 thr, .int .i64 now, .slice AV alive.length cV, .slice AS seen.length cS, .slice AO os.length cO, v16] :: rOwn tLease 77 AL cL ls :: rOwn tOrder 50 AO cO os :: rSl tNode AN cN ns :: rSl tChunk AK cK ks :: rSl tInt AV cV alive :: rSl tChunk AS cS seen :: F)) (by kernel_rfl) ?_ ?_
 ·
  have H1 := H0.grow (Ext.refl w).drew
  refine WH.ns (by kernel_rfl) fun hns => ?_
  refine WH.tn (fuel := 24) 0 (LM 25 1) hns rfl (by kernel_rfl) (fun _ hK => (Ev.move rfl)) rfl H1 <| WH.tn (fuel := 23) 1 (LM 25 3) hns rfl (by kernel_rfl) (fun _ hK => (Ev.nilCheck rfl)) rfl H1 ?_
  refine WH.tn (fuel := 22) 2 (LM 25 7) hns rfl (by kernel_rfl) (fun _ hK => (Ev.field (q := ⟨g, 14, none⟩) fa_81_5 rfl rfl)) rfl H1 <| WH.tn (fuel := 21) 3 (LM 25 15) hns rfl (by kernel_rfl) (fun _ hK => (Ev.loadBoxCell na_23 rfl (hK.x s0) rfl)) rfl H1 ?_
  refine WH.tn (fuel := 20) 4 (LM 25 31) hns rfl (by kernel_rfl) (fun _ hK => (Ev.move rfl)) rfl H1 <| WH.tn (fuel := 19) 5 (LM 25 63) hns rfl (by kernel_rfl) (fun _ hK => (Ev.nilCheck rfl)) rfl H1 ?_
  refine WH.tn (fuel := 18) 6 (LM 25 127) hns rfl (by kernel_rfl) (fun _ hK => (Ev.field (q := ⟨g, 3, none⟩) fa_81_1 rfl rfl)) rfl H1 <| WH.tn (fuel := 17) 7 (LM 25 255) hns rfl (by kernel_rfl) (fun _ hK => (Ev.field (q := ⟨g, 3, none⟩) fa_26_0 rfl rfl)) rfl H1 ?_
  refine WH.tn (fuel := 16) 8 (LM 25 511) hns rfl (by kernel_rfl) (fun _ hK => (Ev.loadBoxCell na_22 rfl (hK.x s0) rfl)) rfl H1 <| WH.tn (fuel := 15) 9 (LM 25 1023) hns rfl (by kernel_rfl) (fun _ hK => (Ev.move rfl)) rfl H1 ?_
  refine WH.tn (fuel := 14) 10 (LM 25 2047) hns rfl (by kernel_rfl) (fun _ hK => (Ev.nilCheck rfl)) rfl H1 <| WH.tn (fuel := 13) 11 (LM 25 4095) hns rfl (by kernel_rfl) (fun _ hK => (Ev.field (q := ⟨g, 13, none⟩) fa_81_4 rfl rfl)) rfl H1 ?_
  refine WH.tn (fuel := 12) 12 (LM 25 8191) hns rfl (by kernel_rfl) (fun _ hK => (Ev.loadBoxCell na_51 rfl (hK.x s0) rfl)) rfl H1 <| WH.tn (fuel := 11) 13 (LM 25 16383) hns rfl (by kernel_rfl) (fun _ hK => (Ev.move rfl)) rfl H1 ?_
  refine WH.tn (fuel := 10) 14 (LM 25 32767) hns rfl (by kernel_rfl) (fun _ hK => (Ev.nilCheck rfl)) rfl H1 <| WH.tn (fuel := 9) 15 (LM 25 65535) hns rfl (by kernel_rfl) (fun _ hK => (Ev.field (q := ⟨g, 6, none⟩) fa_81_2 rfl rfl)) rfl H1 ?_
  refine WH.tn (fuel := 8) 16 (LM 25 131071) hns rfl (by kernel_rfl) (fun _ hK => (Ev.field (q := ⟨g, 11, none⟩) fa_33_5 rfl rfl)) rfl H1 <| WH.tn (fuel := 7) 17 (LM 25 262143) hns rfl (by kernel_rfl) (fun _ hK => (Ev.loadBoxCell na_3 rfl (hK.x s0) rfl)) rfl H1 ?_
  refine WH.join (fun lJ wJ => ∃ (g1 : Nat), lJ = [(0, .pointer (some ⟨g, 0, none⟩)), (2, .pointer (some ⟨g1, 0, none⟩)), (27, .bool (moveB seen ns alive thr))] ∧ Hp b S wJ (rBx g1 50 [.int .i64 ((moveO seen ns alive thr).Kind), .int .i64 ((moveO seen ns alive thr).Chunk), .int .i64 ((moveO seen ns alive thr).Version), .int .u32 ((moveO seen ns alive thr).Sum), .int .i64 ((moveO seen ns alive thr).From), .int .i64 ((moveO seen ns alive thr).To), .int .i64 ((moveO seen ns alive thr).Until)] :: rBx g 81 [v0, .slice AL ls.length cL, v2, .slice AN ns.length cN, .slice AK ks.length cK, v5, v6, .int .i64 each, .int .i64 all, v9, .int .i64 hold, .int .i64 thr, .int .i64 now, .slice AV alive.length cV, .slice AS seen.length cS, .slice AO os.length cO, v16] :: rOwn tLease 77 AL cL ls :: rOwn tOrder 50 AO cO os :: rSl tNode AN cN ns :: rSl tChunk AK cK ks :: rSl tInt AV cV alive :: rSl tChunk AS cS seen :: F)) 1 (LM 25 16777215) ?_ fun hS1 => ?_
  ·
   rintro _ w7 ⟨g1, rfl, K7⟩
   have k5 := (K7.rm s0)
   refine WH.tn (fuel := 0) 24 (LM 25 33554431) hns rfl (by kernel_rfl) (fun _ hK => (Ev.assign rfl)) rfl k5 ?_
   exact WH.dn ⟨g1, rfl, K7⟩ rfl (by kernel_rfl)
  refine WH.two (fuel := 6) 18 22 (by kernel_rfl) rfl rfl ?_ ?_
  ·
   refine WL.call rfl rfl rfl cl_89 (move_ok _ (H1.s s6).any (H1.s s3).any (H1.s s5).any thr (by first | omega | (simp; done) | decide) (by first | omega | (simp; done) | decide) hh) rfl ?_
   rintro _ w8 ⟨rfl, h8⟩
   have K8 := H1.c0 h8
   refine WH.next K8 <| WH.tn (fuel := 5) 19 (LM 25 1048575) hns rfl (by kernel_rfl) (fun _ hK => (Ev.move rfl)) rfl K8 <| WH.tn (fuel := 4) 20 (LM 25 2097151) hns rfl (by kernel_rfl) (fun _ hK => (Ev.extract (vs := [.agg #[.int .i64 ((moveO seen ns alive thr).Kind), .int .i64 ((moveO seen ns alive thr).Chunk), .int .i64 ((moveO seen ns alive thr).Version), .int .u32 ((moveO seen ns alive thr).Sum), .int .i64 ((moveO seen ns alive thr).From), .int .i64 ((moveO seen ns alive thr).To), .int .i64 ((moveO seen ns alive thr).Until)], .bool (moveB seen ns alive thr)]) rfl rfl)) rfl K8 ?_
   refine WH.tn (fuel := 3) 21 (LM 25 4194303) hns rfl (by kernel_rfl) (fun _ hK => (Ev.extract (vs := [.agg #[.int .i64 ((moveO seen ns alive thr).Kind), .int .i64 ((moveO seen ns alive thr).Chunk), .int .i64 ((moveO seen ns alive thr).Version), .int .u32 ((moveO seen ns alive thr).Sum), .int .i64 ((moveO seen ns alive thr).From), .int .i64 ((moveO seen ns alive thr).To), .int .i64 ((moveO seen ns alive thr).Until)], .bool (moveB seen ns alive thr)]) rfl rfl)) rfl K8 ?_
   refine WH.one (fuel := 2) 22 (by kernel_rfl) rfl ?_
   refine al (cs := [.int .i64 0, .int .i64 0, .int .i64 0, .int .u32 0, .int .i64 0, .int .i64 0, .int .i64 0]) zero_50 rfl K8 fun g3 w9 K9 => ?_
   have k6 := (K9.rm s0)
   refine WH.next k6 <| WH.one (fuel := 1) 23 (by kernel_rfl) rfl ?_
   refine stw (ds := [.int .i64 ((moveO seen ns alive thr).Kind), .int .i64 ((moveO seen ns alive thr).Chunk), .int .i64 ((moveO seen ns alive thr).Version), .int .u32 ((moveO seen ns alive thr).Sum), .int .i64 ((moveO seen ns alive thr).From), .int .i64 ((moveO seen ns alive thr).To), .int .i64 ((moveO seen ns alive thr).Until)]) rfl rfl rfl sz_50 K9 s0 rfl rfl fun w10 K10 => ?_
   have k7 := (K10.rm s0)
   exact WH.kj hS1 (by kernel_rfl) k7 ⟨g3, rfl, K10⟩ rfl
  ·
   refine al (cs := [.int .i64 0, .int .i64 0, .int .i64 0, .int .u32 0, .int .i64 0, .int .i64 0, .int .i64 0]) zero_50 rfl H1 fun g4 w11 K11 => ?_
   have k8 := (K11.rm s0)
   refine WH.next k8 <| WH.one (fuel := 5) 18 (by kernel_rfl) rfl <| WL.call rfl rfl rfl cl_89 (move_ok _ (K11.s s7).any (K11.s s4).any (K11.s s6).any thr (by first | omega | (simp; done) | decide) (by first | omega | (simp; done) | decide) hh) rfl ?_
   rintro _ w12 ⟨rfl, h12⟩
   have K12 := K11.c0 h12
   have k9 := (K12.rm s0)
   refine WH.next k9 <| WH.tn (fuel := 4) 19 (LM 25 5242879) hns rfl (by kernel_rfl) (fun _ hK => (Ev.move rfl)) rfl k9 <| WH.tn (fuel := 3) 20 (LM 25 6291455) hns rfl (by kernel_rfl) (fun _ hK => (Ev.extract (vs := [.agg #[.int .i64 ((moveO seen ns alive thr).Kind), .int .i64 ((moveO seen ns alive thr).Chunk), .int .i64 ((moveO seen ns alive thr).Version), .int .u32 ((moveO seen ns alive thr).Sum), .int .i64 ((moveO seen ns alive thr).From), .int .i64 ((moveO seen ns alive thr).To), .int .i64 ((moveO seen ns alive thr).Until)], .bool (moveB seen ns alive thr)]) rfl rfl)) rfl k9 ?_
   refine WH.tn (fuel := 2) 21 (LM 25 8388607) hns rfl (by kernel_rfl) (fun _ hK => (Ev.extract (vs := [.agg #[.int .i64 ((moveO seen ns alive thr).Kind), .int .i64 ((moveO seen ns alive thr).Chunk), .int .i64 ((moveO seen ns alive thr).Version), .int .u32 ((moveO seen ns alive thr).Sum), .int .i64 ((moveO seen ns alive thr).From), .int .i64 ((moveO seen ns alive thr).To), .int .i64 ((moveO seen ns alive thr).Until)], .bool (moveB seen ns alive thr)]) rfl rfl)) rfl k9 ?_
   refine WH.one (fuel := 1) 23 (by kernel_rfl) rfl ?_
   refine stw (ds := [.int .i64 ((moveO seen ns alive thr).Kind), .int .i64 ((moveO seen ns alive thr).Chunk), .int .i64 ((moveO seen ns alive thr).Version), .int .u32 ((moveO seen ns alive thr).Sum), .int .i64 ((moveO seen ns alive thr).From), .int .i64 ((moveO seen ns alive thr).To), .int .i64 ((moveO seen ns alive thr).Until)]) rfl rfl rfl sz_50 K12 s0 rfl rfl fun w13 K13 => ?_
   have k10 := (K13.rm s0)
   exact WH.kj hS1 (by kernel_rfl) k10 ⟨g4, rfl, K13⟩ rfl
 rintro _ w14 ⟨gj1, rfl, K14⟩
 refine WP.held (fun wS => Hp b S wS (rBx gj1 50 [.int .i64 ((moveO seen ns alive thr).Kind), .int .i64 ((moveO seen ns alive thr).Chunk), .int .i64 ((moveO seen ns alive thr).Version), .int .u32 ((moveO seen ns alive thr).Sum), .int .i64 ((moveO seen ns alive thr).From), .int .i64 ((moveO seen ns alive thr).To), .int .i64 ((moveO seen ns alive thr).Until)] :: rBx g 81 [v0, .slice AL ls.length cL, v2, .slice AN ns.length cN, .slice AK ks.length cK, v5, v6, .int .i64 each, .int .i64 all, v9, .int .i64 hold, .int .i64 thr, .int .i64 now, .slice AV alive.length cV, .slice AS seen.length cS, .slice AO os.length cO, v16] :: rOwn tLease 77 AL cL ls :: rOwn tOrder 50 AO cO os :: rSl tNode AN cN ns :: rSl tChunk AK cK ks :: rSl tInt AV cV alive :: rSl tChunk AS cS seen :: F)) (fun lJ wJ => ∃ (gj2 : Nat) (Aj1 : Option Addr) (cj1 : Nat), lJ = [(0, .pointer (some ⟨g, 0, none⟩)), (2, .pointer (some ⟨gj1, 0, none⟩)), (3, .bool (moveB seen ns alive thr)), (4, .pointer (some ⟨gj2, 0, none⟩)), (5, .bool (findB ks ((moveO seen ns alive thr).Chunk)))] ∧ Hp b S wJ (rBx gj2 53 [.int .i64 ((findC ks ((moveO seen ns alive thr).Chunk)).ID), .int .i64 ((findC ks ((moveO seen ns alive thr).Chunk)).Version), .int .u32 ((findC ks ((moveO seen ns alive thr).Chunk)).Sum), .slice Aj1 (((findC ks ((moveO seen ns alive thr).Chunk)).Holders).length) cj1] :: rSl tInt Aj1 cj1 ((findC ks ((moveO seen ns alive thr).Chunk)).Holders) :: rBx gj1 50 [.int .i64 ((moveO seen ns alive thr).Kind), .int .i64 ((moveO seen ns alive thr).Chunk), .int .i64 ((moveO seen ns alive thr).Version), .int .u32 ((moveO seen ns alive thr).Sum), .int .i64 ((moveO seen ns alive thr).From), .int .i64 ((moveO seen ns alive thr).To), .int .i64 ((moveO seen ns alive thr).Until)] :: rBx g 81 [v0, .slice AL ls.length cL, v2, .slice AN ns.length cN, .slice AK ks.length cK, v5, v6, .int .i64 each, .int .i64 all, v9, .int .i64 hold, .int .i64 thr, .int .i64 now, .slice AV alive.length cV, .slice AS seen.length cS, .slice AO os.length cO, v16] :: rOwn tLease 77 AL cL ls :: rOwn tOrder 50 AO cO os :: rSl tNode AN cN ns :: rSl tChunk AK cK ks :: rSl tInt AV cV alive :: rSl tChunk AS cS seen :: F)) (by kernel_rfl) ?_ ?_
 ·
  have H2 := K14.grow (Ext.refl w14).drew
  refine WH.ns (by kernel_rfl) fun hns => ?_
  refine WH.tn (fuel := 13) 0 (LM 14 1) hns rfl (by kernel_rfl) (fun _ hK => (Ev.move rfl)) rfl H2 <| WH.tn (fuel := 12) 1 (LM 14 3) hns rfl (by kernel_rfl) (fun _ hK => (Ev.nilCheck rfl)) rfl H2 ?_
  refine WH.tn (fuel := 11) 2 (LM 14 7) hns rfl (by kernel_rfl) (fun _ hK => (Ev.field (q := ⟨g, 3, none⟩) fa_81_1 rfl rfl)) rfl H2 <| WH.tn (fuel := 10) 3 (LM 14 15) hns rfl (by kernel_rfl) (fun _ hK => (Ev.field (q := ⟨g, 4, none⟩) fa_26_1 rfl rfl)) rfl H2 ?_
  refine WH.tn (fuel := 9) 4 (LM 14 31) hns rfl (by kernel_rfl) (fun _ hK => (Ev.loadBoxCell na_23 rfl (hK.x s1) rfl)) rfl H2 <| WH.tn (fuel := 8) 5 (LM 14 63) hns rfl (by kernel_rfl) (fun _ hK => (Ev.field (q := ⟨gj1, 1, none⟩) fa_50_1 rfl rfl)) rfl H2 ?_
  refine WH.tn (fuel := 7) 6 (LM 14 127) hns rfl (by kernel_rfl) (fun _ hK => (Ev.loadBoxCell na_3 rfl (hK.x s0) rfl)) rfl H2 ?_
  refine WH.join (fun lJ wJ => ∃ (g5 : Nat) (B0_0_15 : Option Addr) (d0_0_15 : Nat), lJ = [(0, .pointer (some ⟨g, 0, none⟩)), (2, .pointer (some ⟨gj1, 0, none⟩)), (3, .bool (moveB seen ns alive thr)), (4, .pointer (some ⟨g5, 0, none⟩)), (38, .bool (findB ks ((moveO seen ns alive thr).Chunk)))] ∧ Hp b S wJ (rBx g5 53 [.int .i64 ((findC ks ((moveO seen ns alive thr).Chunk)).ID), .int .i64 ((findC ks ((moveO seen ns alive thr).Chunk)).Version), .int .u32 ((findC ks ((moveO seen ns alive thr).Chunk)).Sum), .slice B0_0_15 (((findC ks ((moveO seen ns alive thr).Chunk)).Holders).length) d0_0_15] :: rSl tInt B0_0_15 d0_0_15 ((findC ks ((moveO seen ns alive thr).Chunk)).Holders) :: rBx gj1 50 [.int .i64 ((moveO seen ns alive thr).Kind), .int .i64 ((moveO seen ns alive thr).Chunk), .int .i64 ((moveO seen ns alive thr).Version), .int .u32 ((moveO seen ns alive thr).Sum), .int .i64 ((moveO seen ns alive thr).From), .int .i64 ((moveO seen ns alive thr).To), .int .i64 ((moveO seen ns alive thr).Until)] :: rBx g 81 [v0, .slice AL ls.length cL, v2, .slice AN ns.length cN, .slice AK ks.length cK, v5, v6, .int .i64 each, .int .i64 all, v9, .int .i64 hold, .int .i64 thr, .int .i64 now, .slice AV alive.length cV, .slice AS seen.length cS, .slice AO os.length cO, v16] :: rOwn tLease 77 AL cL ls :: rOwn tOrder 50 AO cO os :: rSl tNode AN cN ns :: rSl tChunk AK cK ks :: rSl tInt AV cV alive :: rSl tChunk AS cS seen :: F)) 1 (LM 14 8191) ?_ fun hS2 => ?_
  ·
   rintro _ w21 ⟨g5, B0_0_15, d0_0_15, rfl, K21⟩
   have k16 := ((K21.rm s1).rm s0)
   refine WH.tn (fuel := 0) 13 (LM 14 16383) hns rfl (by kernel_rfl) (fun _ hK => (Ev.assign rfl)) rfl k16 ?_
   exact WH.dn ⟨g5, B0_0_15, d0_0_15, rfl, K21⟩ rfl (by kernel_rfl)
  refine WH.two (fuel := 6) 7 11 (by kernel_rfl) rfl rfl ?_ ?_
  ·
   refine WL.call rfl rfl rfl cl_25 (find_ok _ (H2.s s5) ((moveO seen ns alive thr).Chunk) (by first | omega | (simp; done) | decide) hk) rfl ?_
   rintro _ w22 ⟨B0_0_22, d0_0_22, rfl, h22⟩
   have K22 := H2.c1 h22
   have hL22_0 := (K22.s s0).len_le
   have k17 := (K22.rm s0)
   refine WH.next k17 <| WH.tn (fuel := 5) 8 (LM 14 511) hns rfl (by kernel_rfl) (fun _ hK => (Ev.move rfl)) rfl k17 <| WH.tn (fuel := 4) 9 (LM 14 1023) hns rfl (by kernel_rfl) (fun _ hK => (Ev.extract (vs := [.agg #[.int .i64 ((findC ks ((moveO seen ns alive thr).Chunk)).ID), .int .i64 ((findC ks ((moveO seen ns alive thr).Chunk)).Version), .int .u32 ((findC ks ((moveO seen ns alive thr).Chunk)).Sum), .slice B0_0_22 (((findC ks ((moveO seen ns alive thr).Chunk)).Holders).length) d0_0_22], .bool (findB ks ((moveO seen ns alive thr).Chunk))]) rfl rfl)) rfl k17 ?_
   refine WH.tn (fuel := 3) 10 (LM 14 2047) hns rfl (by kernel_rfl) (fun _ hK => (Ev.extract (vs := [.agg #[.int .i64 ((findC ks ((moveO seen ns alive thr).Chunk)).ID), .int .i64 ((findC ks ((moveO seen ns alive thr).Chunk)).Version), .int .u32 ((findC ks ((moveO seen ns alive thr).Chunk)).Sum), .slice B0_0_22 (((findC ks ((moveO seen ns alive thr).Chunk)).Holders).length) d0_0_22], .bool (findB ks ((moveO seen ns alive thr).Chunk))]) rfl rfl)) rfl k17 ?_
   refine WH.one (fuel := 2) 11 (by kernel_rfl) rfl ?_
   refine al (cs := [.int .i64 0, .int .i64 0, .int .u32 0, .slice none 0 0]) zero_53 rfl K22 fun g7 w23 K23 => ?_
   have k18 := ((K23.rm s1).rm s0)
   refine WH.next k18 <| WH.one (fuel := 1) 12 (by kernel_rfl) rfl ?_
   refine stw (ds := [.int .i64 ((findC ks ((moveO seen ns alive thr).Chunk)).ID), .int .i64 ((findC ks ((moveO seen ns alive thr).Chunk)).Version), .int .u32 ((findC ks ((moveO seen ns alive thr).Chunk)).Sum), .slice B0_0_22 (((findC ks ((moveO seen ns alive thr).Chunk)).Holders).length) d0_0_22]) rfl rfl rfl sz_53 K23 s0 rfl rfl fun w24 K24 => ?_
   have k19 := ((K24.rm s1).rm s0)
   exact WH.kj hS2 (by kernel_rfl) k19 ⟨g7, B0_0_22, d0_0_22, rfl, K24⟩ rfl
  ·
   refine al (cs := [.int .i64 0, .int .i64 0, .int .u32 0, .slice none 0 0]) zero_53 rfl H2 fun g8 w25 K25 => ?_
   have k20 := (K25.rm s0)
   refine WH.next k20 <| WH.one (fuel := 5) 7 (by kernel_rfl) rfl <| WL.call rfl rfl rfl cl_25 (find_ok _ (K25.s s6) ((moveO seen ns alive thr).Chunk) (by first | omega | (simp; done) | decide) hk) rfl ?_
   rintro _ w26 ⟨B0_0_26, d0_0_26, rfl, h26⟩
   have K26 := K25.c1 h26
   have hL26_0 := (K26.s s0).len_le
   have k21 := ((K26.rm s1).rm s0)
   refine WH.next k21 <| WH.tn (fuel := 4) 8 (LM 14 2559) hns rfl (by kernel_rfl) (fun _ hK => (Ev.move rfl)) rfl k21 <| WH.tn (fuel := 3) 9 (LM 14 3071) hns rfl (by kernel_rfl) (fun _ hK => (Ev.extract (vs := [.agg #[.int .i64 ((findC ks ((moveO seen ns alive thr).Chunk)).ID), .int .i64 ((findC ks ((moveO seen ns alive thr).Chunk)).Version), .int .u32 ((findC ks ((moveO seen ns alive thr).Chunk)).Sum), .slice B0_0_26 (((findC ks ((moveO seen ns alive thr).Chunk)).Holders).length) d0_0_26], .bool (findB ks ((moveO seen ns alive thr).Chunk))]) rfl rfl)) rfl k21 ?_
   refine WH.tn (fuel := 2) 10 (LM 14 4095) hns rfl (by kernel_rfl) (fun _ hK => (Ev.extract (vs := [.agg #[.int .i64 ((findC ks ((moveO seen ns alive thr).Chunk)).ID), .int .i64 ((findC ks ((moveO seen ns alive thr).Chunk)).Version), .int .u32 ((findC ks ((moveO seen ns alive thr).Chunk)).Sum), .slice B0_0_26 (((findC ks ((moveO seen ns alive thr).Chunk)).Holders).length) d0_0_26], .bool (findB ks ((moveO seen ns alive thr).Chunk))]) rfl rfl)) rfl k21 ?_
   refine WH.one (fuel := 1) 12 (by kernel_rfl) rfl ?_
   refine stw (ds := [.int .i64 ((findC ks ((moveO seen ns alive thr).Chunk)).ID), .int .i64 ((findC ks ((moveO seen ns alive thr).Chunk)).Version), .int .u32 ((findC ks ((moveO seen ns alive thr).Chunk)).Sum), .slice B0_0_26 (((findC ks ((moveO seen ns alive thr).Chunk)).Holders).length) d0_0_26]) rfl rfl rfl sz_53 K26 s1 rfl rfl fun w27 K27 => ?_
   have k22 := ((K27.rm s1).rm s0)
   exact WH.kj hS2 (by kernel_rfl) k22 ⟨g8, B0_0_26, d0_0_26, rfl, K27⟩ rfl
 rintro _ w28 ⟨gj2, Aj1, cj1, rfl, K28⟩
 refine rg <| mv rfl <| mv rfl ?_
 refine WL.cutb 2 42 ((moveB seen ns alive thr) && (findB ks ((moveO seen ns alive thr).Chunk))) ?_ ?_
 ·
  cases hb40 : (moveB seen ns alive thr) with
  | true =>
   refine WL.evg rfl (Ev.move rfl) rfl <| ev (Ev.pick_t rfl rfl) ?_
   exact WL.cend rfl
  | false =>
   refine WL.pass rfl rfl rfl <| ev (Ev.pick_f rfl rfl) ?_
   exact WL.cend rfl
 refine dn ?_
 refine WP.cond_end rfl (fun hc42 => ?_) (fun hc42 => ?_)
 ·
  refine rge <| mv rfl <| ev (Ev.loadBox ag_53 rfl rfl (K28.x s0)) <| ev (Ev.field (q := ⟨gj1, 4, none⟩) fa_50_4 rfl rfl) <| ev (Ev.loadBoxCell na_3 rfl (K28.x s2) rfl) ?_
  refine ev (Ev.field (q := ⟨gj1, 5, none⟩) fa_50_5 rfl rfl) <| ev (Ev.loadBoxCell na_3 rfl (K28.x s2) rfl) <| WL.call rfl rfl rfl cl_87 (ccopies_ok ((((((K28.sel s2).sel s2).sel s2).sel s5).sel s5).sel s5) (findC ks ((moveO seen ns alive thr).Chunk)) ((moveO seen ns alive thr).From) ((moveO seen ns alive thr).To) (by omega) (by omega) (by omega)) rfl ?_
  rintro _ w29 ⟨rfl, Ae1, ce1, Af1, cf1, K29⟩
  refine dne ?_
  refine Pst.body_norm (Pst.body_ret rfl rfl rfl ?_)
  have H3 := (((K29.rm s5).rm s4).rm s3)
  exact ⟨rfl, _, _, _, _, by unfold balL balO; first | (rw [if_pos (show balQ ks seen ns alive thr = true from hc42), if_pos (show balQ ks seen ns alive thr = true from hc42)]; exact H3) | (rw [if_neg (show ¬ balQ ks seen ns alive thr = true by rw [show balQ ks seen ns alive thr = false from hc42]; decide), if_neg (show ¬ balQ ks seen ns alive thr = true by rw [show balQ ks seen ns alive thr = false from hc42]; decide)]; exact H3)⟩
 refine WP.skip (Pst.body_norm (Pst.body_ret rfl rfl rfl ?_))
 have H4 := (((K28.rm s2).rm s1).rm s0)
 exact ⟨rfl, _, _, _, _, by unfold balL balO; first | (rw [if_pos (show balQ ks seen ns alive thr = true from hc42), if_pos (show balQ ks seen ns alive thr = true from hc42)]; exact H4) | (rw [if_neg (show ¬ balQ ks seen ns alive thr = true by rw [show balQ ks seen ns alive thr = false from hc42]; decide), if_neg (show ¬ balQ ks seen ns alive thr = true by rw [show balQ ks seen ns alive thr = false from hc42]; decide)]; exact H4)⟩

end Go.Proofs.YtjcklpooaaaglaaGreat
