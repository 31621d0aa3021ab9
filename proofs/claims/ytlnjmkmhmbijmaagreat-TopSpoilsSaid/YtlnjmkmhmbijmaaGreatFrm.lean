/- Contracts of functions: what each call hands back, and that it leaves all that was there as it was. -/
import Derived.Test.YtlnjmkmhmbijmaaGreatFld
set_option maxRecDepth 4000
set_option linter.all false
namespace Go.Proofs.YtlnjmkmhmbijmaaGreat
open Go.RowKit

theorem pack_len {ns : List Int} (h : ∀ z ∈ ns, ¬ sizeZ z < 0) (hl : ns.length ≤ 8) : (packL (nats ns)).length ≤ 67 := by
  have h1 := packL_len (ns := nats ns) (fun n hn => by
    obtain ⟨z, hz, rfl⟩ := List.mem_map.1 hn
    exact (sizeZ_ok (h z hz)).2.1)
  have h2 : (nats ns).length = ns.length := by simp [nats]
  omega
theorem size_bad {b : List (BitVec 8)} {x : BitVec 8} (hx : b[0]? = some x) (h : ¬ (x.toNat : Int) = 83) : sizeF b = (0, 2) := by
  have h0 := lt_of_get hx
  unfold sizeF; rw [if_neg (by omega), getD_of hx, if_pos h]
theorem size_at {b : List (BitVec 8)} {x y z : BitVec 8} (hx : b[0]? = some x) (h : (x.toNat : Int) = 83) (h4 : 4 ≤ b.length) (hy : b[2]? = some y) (hz : b[3]? = some z) :
    sizeF b = if 4096 < y.toNat * 256 + z.toNat then (0, 7) else if b.length < 4 + (y.toNat * 256 + z.toNat) + 4 then (0, 3) else (4 + (y.toNat * 256 + z.toNat) + 4, 0) := by
  unfold sizeF; rw [if_neg (by omega), getD_of hx, if_neg (fun h2 => h2 h), if_neg (by omega), getD_of hy, getD_of hz]
theorem size_le {b : List (BitVec 8)} (h : (sizeF b).2 = 0) : (sizeF b).1 ≤ b.length ∧ 8 ≤ (sizeF b).1 := by
  unfold sizeF at h ⊢
  repeat' split at h
  all_goals first | (exact absurd h (by decide)) | skip
  simp only [if_neg, *, not_false_eq_true]
  omega
theorem get_err {b : List (BitVec 8)} (h : ¬ (sizeF b).2 = 0) : getF b = ((0, []), 0, (sizeF b).2) := by unfold getF; rw [if_pos h]
theorem get_no {b : List (BitVec 8)} (h : (sizeF b).2 = 0) (h2 : (openL (b.take (sizeF b).1)).isSome = false) : getF b = ((0, []), 0, 4) := by
  unfold getF; rw [if_neg (fun h3 => h3 h)]
  cases ho : openL (b.take (sizeF b).1) with
  | none => rfl
  | some x => rw [ho] at h2; cases h2
theorem get_yes {b : List (BitVec 8)} (h : (sizeF b).2 = 0) (h2 : (openL (b.take (sizeF b).1)).isSome = true) : getF b = (((((openL (b.take (sizeF b).1)).getD []).getD 1 0#8).toNat, ((openL (b.take (sizeF b).1)).getD []).drop 4), (sizeF b).1, 0) := by
  unfold getF; rw [if_neg (fun h3 => h3 h)]
  cases ho : openL (b.take (sizeF b).1) with
  | none => rw [ho] at h2; cases h2
  | some x => rfl
theorem open_len' {b : List (BitVec 8)} (h : (openL b).isSome = true) : ((openL b).getD []).length = b.length - 4 := by
  cases ho : openL b with
  | none => rw [ho] at h; cases h
  | some x =>
    unfold openL at ho
    split at ho
    · cases ho; show (b.take _).length = _; rw [List.length_take]; omega
    · cases ho
theorem open_len {b x : List (BitVec 8)} (h : openL b = some x) : x.length = b.length - 4 := by
  unfold openL at h
  split at h
  · cases h; rw [List.length_take]; omega
  · cases h

theorem fa_38_0 : FieldAt Tryz.prog 38 0 0 := fun _ _ => by kernel_rfl
theorem fa_38_1 : FieldAt Tryz.prog 38 1 1 := fun _ _ => by kernel_rfl
theorem bs_32_4_IIII (a0 : Int) (a1 : Int) (a2 : Int) (a3 : Int) : ∀ w, (Instr.buildSlice 32 4 (List.toArray [(0, .int .u8 a0), (1, .int .u8 a1), (2, .int .u8 a2), (3, .int .u8 a3)])).run Tryz.prog w = .ok (.slice (some ⟨w.heap.size, 0, none⟩) 4 4) (w.alloc (.cells (List.toArray [.int .u8 a0, .int .u8 a1, .int .u8 a2, .int .u8 a3]) 5)) := fun _ => by kernel_rfl
theorem bl_128_0S (a0 : Option Addr) (a0n a0c : Nat) : Tryz.prog.built 128 [(0, .slice a0 a0n a0c)] = some #[.slice a0 a0n a0c, .slice none 0 0] := by kernel_rfl
theorem cl_63 : Callable Tryz.prog 63 := fun _ _ => by kernel_rfl
theorem bl_38_0I_1S (a0 : Int) (a1 : Option Addr) (a1n a1c : Nat) : Tryz.prog.built 38 [(0, .int .i64 a0), (1, .slice a1 a1n a1c)] = some #[.int .i64 a0, .slice a1 a1n a1c] := by kernel_rfl
theorem cl_64 : Callable Tryz.prog 64 := fun _ _ => by kernel_rfl
theorem fa_68_1 : FieldAt Tryz.prog 68 1 1 := fun _ _ => by kernel_rfl
theorem sz_66 : Size Tryz.prog 66 6 := fun _ => by kernel_rfl
theorem ag_66 : Agg Tryz.prog 66 6 := ⟨fun _ => by kernel_rfl, sz_66⟩
theorem zero_66 : ∀ w, (zeroValue 66).run Tryz.prog w = .ok (.agg #[.int .i64 0, .int .i64 0, .int .i64 0, .int .i64 0, .int .i64 0, .int .i64 0]) w := fun _ => by kernel_rfl
theorem fa_68_0 : FieldAt Tryz.prog 68 0 0 := fun _ _ => by kernel_rfl
theorem fa_66_0 : FieldAt Tryz.prog 66 0 0 := fun _ _ => by kernel_rfl
theorem fa_66_1 : FieldAt Tryz.prog 66 1 1 := fun _ _ => by kernel_rfl
theorem fa_66_2 : FieldAt Tryz.prog 66 2 2 := fun _ _ => by kernel_rfl
theorem fa_66_3 : FieldAt Tryz.prog 66 3 3 := fun _ _ => by kernel_rfl
theorem fa_66_4 : FieldAt Tryz.prog 66 4 4 := fun _ _ => by kernel_rfl
theorem fa_66_5 : FieldAt Tryz.prog 66 5 5 := fun _ _ => by kernel_rfl
theorem bs_72_8_IIIIIIII (a0 : Int) (a1 : Int) (a2 : Int) (a3 : Int) (a4 : Int) (a5 : Int) (a6 : Int) (a7 : Int) : ∀ w, (Instr.buildSlice 72 8 (List.toArray [(0, .int .i64 a0), (1, .int .i64 a1), (2, .int .i64 a2), (3, .int .i64 a3), (4, .int .i64 a4), (5, .int .i64 a5), (6, .int .i64 a6), (7, .int .i64 a7)])).run Tryz.prog w = .ok (.slice (some ⟨w.heap.size, 0, none⟩) 8 8) (w.alloc (.cells (List.toArray [.int .i64 a0, .int .i64 a1, .int .i64 a2, .int .i64 a3, .int .i64 a4, .int .i64 a5, .int .i64 a6, .int .i64 a7]) 3)) := fun _ => by kernel_rfl
theorem sz_68 : Size Tryz.prog 68 7 := fun _ => by kernel_rfl
theorem ag_68 : Agg Tryz.prog 68 7 := ⟨fun _ => by kernel_rfl, sz_68⟩
theorem cl_24 : Callable Tryz.prog 24 := fun _ _ => by kernel_rfl
theorem cl_61 : Callable Tryz.prog 61 := fun _ _ => by kernel_rfl
theorem cl_59 : Callable Tryz.prog 59 := fun _ _ => by kernel_rfl
theorem zero_38 : ∀ w, (zeroValue 38).run Tryz.prog w = .ok (.agg #[.int .i64 0, .slice none 0 0]) w := fun _ => by kernel_rfl
theorem cl_65 : Callable Tryz.prog 65 := fun _ _ => by kernel_rfl
theorem bl_38_  : Tryz.prog.built 38 [] = some #[.int .i64 0, .slice none 0 0] := by kernel_rfl
theorem sz_38 : Size Tryz.prog 38 2 := fun _ => by kernel_rfl
theorem ag_38 : Agg Tryz.prog 38 2 := ⟨fun _ => by kernel_rfl, sz_38⟩
theorem cl_66 : Callable Tryz.prog 66 := fun _ _ => by kernel_rfl
theorem Put_ok {S0 : Nat → Prop} (w : World) (f : AFrame) {B0_f : Option Addr} {d0_f : Nat} (h0_f : Sl tByte S0 w B0_f d0_f f.Body) (hk : 0 ≤ f.Kind ∧ f.Kind ≤ 255) (hb : f.Body.length ≤ 4096) :
    Rets Tryz.prog 64 #[.agg #[.int .i64 f.Kind, .slice B0_f f.Body.length d0_f]] w fun v w' => ∃ (A0 : Option Addr) (c0 : Nat), v = .tuple #[.slice A0 ((frameL f.Kind.toNat f.Body).length) c0, .int .i64 0] ∧ Hp w S0 w' [rOwn tByte 5 A0 c0 (frameL f.Kind.toNat f.Body)] := by
 refine WP.enter Tryz.func64 rfl Tryz.ntmps64 rfl ?_
 have H0 := Hp.init w S0
 refine rg ?_
 refine bx rfl rfl H0 fun g1 w1 K1 => ?_
 refine as_ rfl <| as_ rfl <| dn <| WP.seq <| WP.block <| rg <| ev (Ev.field (q := ⟨g1, 0, none⟩) fa_38_0 rfl rfl) <| ev (Ev.loadBoxCell na_3 rfl (K1.x s0) rfl) ?_
 refine ev (Ev.lss rfl rfl) <| mv rfl ?_
 refine WL.cutb 4 14 ((decide (f.Kind < 0)) || (decide (255 < f.Kind))) ?_ ?_
 ·
  cases hb10 : decide (f.Kind < 0) with
  | true =>
   refine WL.pass rfl rfl rfl <| WL.pass rfl rfl rfl <| WL.pass rfl rfl rfl <| ev (Ev.pick_t rfl rfl) ?_
   exact WL.cend rfl
  | false =>
   have hb10p := of_decide_eq_false hb10
   refine WL.evg rfl (Ev.field (q := ⟨g1, 0, none⟩) fa_38_0 rfl rfl) rfl <| WL.evg rfl (Ev.loadBoxCell na_3 rfl (K1.x s0) rfl) rfl <| WL.evg rfl (Ev.gtr rfl rfl) rfl ?_
   refine ev (Ev.pick_f rfl rfl) ?_
   exact WL.cend rfl
 refine as_ rfl <| dn ?_
 refine WP.cond_end rfl (fun hc6 => ?_) (fun hc6 => ?_)
 ·
  try simp only [Bool.or_eq_true, Bool.or_eq_false_iff, decide_eq_true_eq, decide_eq_false_iff_not] at hc6
  omega
 try simp only [Bool.or_eq_true, Bool.or_eq_false_iff, decide_eq_true_eq, decide_eq_false_iff_not] at hc6
 refine rg <| ev (Ev.field (q := ⟨g1, 1, none⟩) fa_38_1 rfl rfl) <| ev (Ev.loadBoxCell na_32 rfl (K1.x s0) rfl) <| ev (Ev.len Tryz.underlying32 rfl) <| ev (Ev.gtr rfl rfl) ?_
 refine as_ rfl <| dn ?_
 refine WP.cond_end rfl (fun hc15 => ?_) (fun hc15 => ?_)
 ·
  replace hc15 := of_decide_eq_true hc15
  omega
 replace hc15 := of_decide_eq_false hc15
 refine WP.skip (Pst.blk_norm (Pst.norm ?_))
 refine rg <| ev (Ev.field (q := ⟨g1, 1, none⟩) fa_38_1 rfl rfl) <| ev (Ev.loadBoxCell na_32 rfl (K1.x s0) rfl) <| ev (Ev.len Tryz.underlying32 rfl) <| as_ rfl ?_
 refine dn <| rg <| ev (Ev.field (q := ⟨g1, 0, none⟩) fa_38_0 rfl rfl) <| ev (Ev.loadBoxCell na_3 rfl (K1.x s0) rfl) <| WL.re (t := 24) rfl (congrArg (Value.int .i64) (show (f.Kind : Int) = ((f.Kind.toNat : Nat) : Int) by omega)) ?_
 refine ev (Ev.conv_8 (m := f.Kind.toNat) cv_3_5.1 cv_3_5.2.1 cv_3_5.2.2 rfl) <| mv rfl <| ev (Ev.shrI (m := f.Body.length) (c := 8) rfl rfl (by omega)) <| ev (Ev.conv_8 (m := f.Body.length / 2 ^ 8) cv_3_5.1 cv_3_5.2.1 cv_3_5.2.2 rfl) ?_
 refine mv rfl <| ev (Ev.conv_8 (m := f.Body.length) cv_3_5.1 cv_3_5.2.1 cv_3_5.2.2 rfl) ?_
 refine bsn (τ := tByte) (xs := ([83#8, (b8 f.Kind.toNat), (b8 (f.Body.length / 2 ^ 8)), (b8 f.Body.length)] : List (BitVec 8))) (vs := [(0, .int .u8 83), (1, .int .u8 (((b8 f.Kind.toNat)).toNat : Int)), (2, .int .u8 (((b8 (f.Body.length / 2 ^ 8))).toNat : Int)), (3, .int .u8 (((b8 f.Body.length)).toNat : Int))]) (css := [[.int .u8 83], [.int .u8 (((b8 f.Kind.toNat)).toNat : Int)], [.int .u8 (((b8 (f.Body.length / 2 ^ 8))).toNat : Int)], [.int .u8 (((b8 f.Body.length)).toNat : Int)]]) rfl (by intro _; apply bs_32_4_IIII) rfl rfl K1 (fun _ e => ⟨rfl, rfl, rfl, rfl, trivial⟩) fun g2 w2 K2 => ?_
 refine as_ rfl <| dn <| rg <| mv rfl <| ev (Ev.field (q := ⟨g1, 1, none⟩) fa_38_1 rfl rfl) <| ev (Ev.loadBoxCell na_32 rfl (K2.x s1) rfl) ?_
 refine ap (ys := f.Body) K2 s0 rfl rfl (K2.a h0_f).any Tryz.underlying32 ei_5 (by simp) (by first | omega | (simp; omega) | (simp; done)) rfl fun Ap1 cp1 w3 K3 => ?_
 refine WL.call rfl rfl rfl cl_122 (Seal_ok _ (K3.o s0) (by simp only [List.length_append, List.length_cons, List.length_nil]; omega)) rfl ?_
 rintro _ w4 ⟨A0_4, c0_4, rfl, h4⟩
 have K4 := K3.f1 h4
 have hL4_0 := (K4.o s0).len_le
 refine as_ rfl <| as_ rfl <| dn ?_
 refine WP.ret (Pst.body_ret rfl rfl rfl ?_)
 have hq1 : (sealL (([83#8, (b8 f.Kind.toNat), (b8 (f.Body.length / 2 ^ 8)), (b8 f.Body.length)] : List (BitVec 8)) ++ f.Body) : List (BitVec 8)) = (frameL f.Kind.toNat f.Body) := by rfl
 rw [hq1] at K4
 exact ⟨A0_4, c0_4, by rw [hq1] <;> rfl, ((K4.rm s2).rm s1)⟩

theorem record_ok {b w : World} {S : Nat → Prop} {F : List Res} {A_ns : Option Addr} {c_ns : Nat} {ns : List Int} {A_xs : Option Addr} {c_xs : Nat} {xs : List (BitVec 8)} (H0 : Hp b S w (rOwn tByte 5 A_xs c_xs xs :: rSl tInt A_ns c_ns ns :: F)) (kind : Nat) (hk : kind ≤ 255) (hN : ∀ z ∈ ns, ¬ sizeZ z < 0) (hI : ∀ z ∈ ns, InI64 z) (hl : ns.length ≤ 8) (hx : xs.length ≤ 100000) :
    Rets Tryz.prog 23 #[.slice A_xs xs.length c_xs, .int .i64 ((kind : Nat) : Int), .slice A_ns ns.length c_ns] w fun v w' => ∃ (A0 : Option Addr) (c0 : Nat), v = .slice A0 ((xs ++ recB (kind, nats ns)).length) c0 ∧ Hp b S w' (rOwn tByte 5 A0 c0 (xs ++ recB (kind, nats ns)) :: F) := by
 refine WP.enter Tryz.func23 rfl Tryz.ntmps23 rfl ?_
 have hp1 := pack_len hN hl
 refine rg <| as_ rfl <| dn <| rg <| mv rfl <| ev (Ev.build (vs := [(0, .slice A_ns ns.length c_ns)]) (cs := [.slice A_ns ns.length c_ns, .slice none 0 0]) rfl (by apply bl_128_0S)) ?_
 refine WL.call rfl rfl rfl cl_63 (Pack_ok _ (⟨ns, []⟩ : AFields) (H0.s s1).any (Sl.none_ tByte Any _) rfl hN hI (by show ns.length ≤ 255; omega)) rfl ?_
 rintro _ w1 ⟨A0_1, c0_1, rfl, h1⟩
 have K1 := H0.f1 h1
 have hL1_0 := (K1.o s0).len_le
 refine mv rfl <| xt rfl rfl <| xt rfl rfl <| as_ rfl <| as_ rfl <| dn <| rg <| mv rfl <| mv rfl <| ev (Ev.build (vs := [(0, .int .i64 ((kind : Nat) : Int)), (1, .slice A0_1 ((packL (nats (⟨ns, []⟩ : AFields).N)).length) c0_1)]) (cs := [.int .i64 ((kind : Nat) : Int), .slice A0_1 ((packL (nats (⟨ns, []⟩ : AFields).N)).length) c0_1]) rfl (by apply bl_38_0I_1S)) ?_
 refine WL.call rfl rfl rfl cl_64 (Put_ok _ (⟨((kind : Nat) : Int), packL (nats (⟨ns, []⟩ : AFields).N)⟩ : AFrame) (K1.o s0) (by show 0 ≤ (kind : Int) ∧ (kind : Int) ≤ 255; omega) (by show (packL (nats ns)).length ≤ 4096; omega)) rfl ?_
 rintro _ w2 ⟨A0_2, c0_2, rfl, h2⟩
 have K2 := K1.f1 h2
 have hL2_0 := (K2.o s0).len_le
 refine mv rfl <| xt rfl rfl <| xt rfl rfl <| as_ rfl <| as_ rfl <| dn <| rg <| mv rfl <| mv rfl ?_
 refine ap (ys := frameL (⟨((kind : Nat) : Int), packL (nats (⟨ns, []⟩ : AFields).N)⟩ : AFrame).Kind.toNat (⟨((kind : Nat) : Int), packL (nats (⟨ns, []⟩ : AFields).N)⟩ : AFrame).Body) K2 s2 rfl rfl (K2.o s0) Tryz.underlying32 ei_5 (by omega) (by show (frameL _ (packL (nats ns))).length ≤ _; rw [frameL_length]; omega) rfl fun Ap1 cp1 w3 K3 => ?_
 refine as_ rfl <| dn ?_
 refine WP.ret (Pst.body_ret rfl rfl rfl ?_)
 have hq1 : ((xs ++ frameL (⟨((kind : Nat) : Int), packL (nats (⟨ns, []⟩ : AFields).N)⟩ : AFrame).Kind.toNat (⟨((kind : Nat) : Int), packL (nats (⟨ns, []⟩ : AFields).N)⟩ : AFrame).Body) : List (BitVec 8)) = (xs ++ recB (kind, nats ns)) := by rfl
 exact ⟨Ap1, cp1, by rw [← hq1] <;> rfl, by rw [← hq1]; exact (((K3.rm s3).rm s2).rm s1)⟩

theorem numbers_ok {S0 : Nat → Prop} (w : World) (i : Int) (e : AEntry) :
    Rets Tryz.prog 24 #[.int .i64 i, .agg #[.int .i64 e.Term, .int .i64 e.Cmd.Client, .int .i64 e.Cmd.Seq, .int .i64 e.Cmd.Kind, .int .i64 e.Cmd.A, .int .i64 e.Cmd.B, .int .i64 e.Cmd.C]] w fun v w' => ∃ (A0 : Option Addr) (c0 : Nat), v = .slice A0 ((numsZ i e).length) c0 ∧ Hp w S0 w' [rOwn tInt 3 A0 c0 (numsZ i e)] := by
 refine WP.enter Tryz.func24 rfl Tryz.ntmps24 rfl ?_
 have H0 := Hp.init w S0
 refine rg ?_
 refine bx rfl rfl H0 fun g1 w1 K1 => ?_
 refine as_ rfl <| dn <| rg <| ev (Ev.field (q := ⟨g1, 1, none⟩) fa_68_1 rfl rfl) <| ev (Ev.loadBoxPart (cs' := [.int .i64 e.Cmd.Client, .int .i64 e.Cmd.Seq, .int .i64 e.Cmd.Kind, .int .i64 e.Cmd.A, .int .i64 e.Cmd.B, .int .i64 e.Cmd.C]) ag_66 rfl rfl (K1.x s0) rfl) ?_
 refine al zero_66 rfl K1 fun g2 w2 K2 => ?_
 refine stw rfl rfl rfl sz_66 K2 s0 rfl rfl fun w3 K3 => ?_
 refine dn <| rg <| mv rfl <| ev (Ev.field (q := ⟨g1, 0, none⟩) fa_68_0 rfl rfl) <| ev (Ev.loadBoxCell na_3 rfl (K3.x s1) rfl) <| ev (Ev.field (q := ⟨g2, 0, none⟩) fa_66_0 rfl rfl) ?_
 refine ev (Ev.loadBoxCell na_3 rfl (K3.x s0) rfl) <| ev (Ev.field (q := ⟨g2, 1, none⟩) fa_66_1 rfl rfl) <| ev (Ev.loadBoxCell na_3 rfl (K3.x s0) rfl) <| ev (Ev.field (q := ⟨g2, 2, none⟩) fa_66_2 rfl rfl) ?_
 refine ev (Ev.loadBoxCell na_3 rfl (K3.x s0) rfl) <| ev (Ev.field (q := ⟨g2, 3, none⟩) fa_66_3 rfl rfl) <| ev (Ev.loadBoxCell na_3 rfl (K3.x s0) rfl) <| ev (Ev.field (q := ⟨g2, 4, none⟩) fa_66_4 rfl rfl) ?_
 refine ev (Ev.loadBoxCell na_3 rfl (K3.x s0) rfl) <| ev (Ev.field (q := ⟨g2, 5, none⟩) fa_66_5 rfl rfl) <| ev (Ev.loadBoxCell na_3 rfl (K3.x s0) rfl) ?_
 refine bsn (τ := tInt) (xs := ([i, e.Term, e.Cmd.Client, e.Cmd.Seq, e.Cmd.Kind, e.Cmd.A, e.Cmd.B, e.Cmd.C] : List Int)) (vs := [(0, .int .i64 i), (1, .int .i64 e.Term), (2, .int .i64 e.Cmd.Client), (3, .int .i64 e.Cmd.Seq), (4, .int .i64 e.Cmd.Kind), (5, .int .i64 e.Cmd.A), (6, .int .i64 e.Cmd.B), (7, .int .i64 e.Cmd.C)]) (css := [[.int .i64 i], [.int .i64 e.Term], [.int .i64 e.Cmd.Client], [.int .i64 e.Cmd.Seq], [.int .i64 e.Cmd.Kind], [.int .i64 e.Cmd.A], [.int .i64 e.Cmd.B], [.int .i64 e.Cmd.C]]) rfl (by intro _; apply bs_72_8_IIIIIIII) rfl rfl K3 (fun _ e => ⟨rfl, rfl, rfl, rfl, rfl, rfl, rfl, rfl, trivial⟩) fun g3 w4 K4 => ?_
 refine as_ rfl <| dn ?_
 refine WP.ret (Pst.body_ret rfl rfl rfl ?_)
 have hq1 : (([i, e.Term, e.Cmd.Client, e.Cmd.Seq, e.Cmd.Kind, e.Cmd.A, e.Cmd.B, e.Cmd.C] : List Int) : List Int) = (numsZ i e) := by rfl
 rw [hq1] at K4
 exact ⟨(some ⟨g3, 0, none⟩), 8, by rw [hq1] <;> rfl, ((K4.rm s2).rm s1)⟩

theorem odd1_ok {S0 : Nat → Prop} (w : World) (n : Int) (hn : InI64 n) :
    Rets Tryz.prog 61 #[.int .i64 n] w fun v w' => v = .bool (decide (sizeZ n < 0)) ∧ Hp w S0 w' [] := by
 refine WP.enter Tryz.func61 rfl Tryz.ntmps61 rfl ?_
 have H0 := Hp.init w S0
 refine rg <| as_ rfl <| dn <| rg <| mv rfl ?_
 refine C0 H0 rfl rfl rfl cl_62 (Size_ok (S0 := Any) _ n (by first | assumption | (unfold InI64; omega))) fun w1 K1 => ?_
 refine ev (Ev.lss rfl rfl) <| as_ rfl <| dn ?_
 refine WP.ret (Pst.body_ret rfl rfl rfl ?_)
 exact ⟨rfl, K1⟩

theorem odd_ok {S0 : Nat → Prop} (w : World) (e : AEntry) (hw : ∀ z ∈ numsZ 0 e, InI64 z) :
    Rets Tryz.prog 21 #[.agg #[.int .i64 e.Term, .int .i64 e.Cmd.Client, .int .i64 e.Cmd.Seq, .int .i64 e.Cmd.Kind, .int .i64 e.Cmd.A, .int .i64 e.Cmd.B, .int .i64 e.Cmd.C]] w fun v w' => v = .bool ((numsZ 0 e).any fun z => decide (sizeZ z < 0)) ∧ Hp w S0 w' [] := by
 refine WP.enter Tryz.func21 rfl Tryz.ntmps21 rfl ?_
 have H0 := Hp.init w S0
 refine rg ?_
 refine bx rfl rfl H0 fun g1 w1 K1 => ?_
 refine as_ rfl <| dn <| rg <| ev (Ev.loadBox ag_68 rfl rfl (K1.x s0)) <| WL.call rfl rfl rfl cl_24 (numbers_ok (S0 := Any) _ 0 e) rfl ?_
 rintro _ w2 ⟨A0_2, c0_2, rfl, h2⟩
 have K2 := K1.f1 h2
 have hL2_0 := (K2.o s0).len_le
 refine C0 K2 rfl rfl rfl cl_60 (ContainsFuncInt_ok _ (K2.o s0) (k_f := []) cl_61 (fun (x : Int) => decide (sizeZ x < 0)) (fun w' x e hm => (odd1_ok (S0 := Any) w' x (hw _ hm)).mono (by rintro _ _ ⟨rfl, hq2⟩; exact ⟨rfl, hq2.ext⟩))) fun w3 K3 => ?_
 refine as_ rfl <| dn ?_
 refine WP.ret (Pst.body_ret rfl rfl rfl ?_)
 have hq1 : ((numsZ 0 e).any (fun (x : Int) => decide (sizeZ x < 0)) : Bool) = ((numsZ 0 e).any fun z => decide (sizeZ z < 0)) := by rfl
 exact ⟨by rw [hq1] <;> rfl, K3.z⟩

theorem IndexFuncEntry_ok {S0 : Nat → Prop} (w : World) {A_s : Option Addr} {c_s : Nat} {s : List AEntry} (h_s : Sl tEntry S0 w A_s c_s s) {f_f : FuncId} {k_f : List Value} (q_f : Callable Tryz.prog f_f) (f : AEntry → Bool) (h_f : ∀ (w' : World) (x : AEntry), Ext w w' → x ∈ s → Rets Tryz.prog f_f (([.agg #[.int .i64 x.Term, .int .i64 x.Cmd.Client, .int .i64 x.Cmd.Seq, .int .i64 x.Cmd.Kind, .int .i64 x.Cmd.A, .int .i64 x.Cmd.B, .int .i64 x.Cmd.C]] : List Value) ++ k_f).toArray w' fun v w'' => v = .bool (f x) ∧ Ext w' w'') :
    Rets Tryz.prog 59 #[.slice A_s s.length c_s, .func (.func f_f) #[] k_f.toArray] w fun v w' => v = .int .i64 (idxOf f s) ∧ Hp w S0 w' [] := by
 refine WP.enter Tryz.func59 rfl Tryz.ntmps59 rfl ?_
 have H0 := Hp.init w S0
 have hb_s := h_s.len_le
 refine rg <| as_ rfl <| dn <| WP.seq <| rg <| mv rfl <| ev (Ev.len Tryz.underlying24 rfl) <| mv rfl <| dn <| WP.block <| Lp H0 (fun l0 rk mJ lJ wJ => ∃ (k : Nat), lJ = (8, .int .i64 ((k : Nat) : Int)) :: l0 ∧ mJ = s.length - k ∧ k ≤ s.length ∧ (∀ y ∈ s.take k, f y = false) ∧ Hp w S0 wJ rk) ⟨0, rfl, rfl, Nat.zero_le _, by simp, H0⟩ rfl ?_
 rintro _ _ w1 ⟨k, rfl, rfl, hk, hno, K1⟩
 refine rg <| ev (Ev.lss rfl rfl) <| dn ?_
 refine WP.cond rfl (fun hc9 => ?_) (fun hc9 => ?_)
 ·
  replace hc9 := of_decide_eq_true hc9
  refine WP.skip (Pst.norm ?_)
  refine WP.seq <| WP.block <| rg <| mv rfl <| as_ rfl <| dn <| rg <| mv rfl <| mv rfl <| mv rfl ?_
  obtain ⟨x1, hx1⟩ := get_some (xs := s) (i := k) (by omega)
  refine ev (Ev.index (i := k) Tryz.underlying24 sz_68 rfl rfl rfl (lt_of_get hx1) ((K1.a h_s).some_ hx1)) <| ev (Ev.loadRow ag_68 rfl rfl ((K1.a h_s).flat_row hx1)) ?_
  refine WL.call rfl rfl rfl q_f (h_f _ x1 K1.ext (mem_of_get hx1)) rfl ?_
  rintro _ w2 ⟨rfl, e2⟩
  have K2 := K1.grow e2
  refine dn ?_
  refine WP.cond_end rfl (fun hc16 => ?_) (fun hc16 => ?_)
  ·
   refine rg <| mv rfl <| as_ rfl <| dn ?_
   refine WP.ret (Pst.blk_ret (Pst.then_ret (Pst.then_ret (Pst.blk_ret (Pst.then_ret (Pst.body_ret rfl rfl rfl ?_))))))
   have hq1 : (((k : Nat) : Int) : Int) = (idxOf f s) := by exact (idxOf_found hno hx1 hc16).symm
   exact ⟨by rw [hq1] <;> rfl, K2⟩
  refine WP.skip (Pst.blk_norm (Pst.norm ?_))
  refine rge <| ev (Ev.add rfl rfl (I64.mk (by omega) (by omega))) <| mv rfl <| dne ?_
  exact Pst.ag ⟨(k + 1), rfl, rfl, by omega, by exact all_snoc (q := fun y => f y = false) hno hx1 hc16, K2⟩ rfl (by omega)
 replace hc9 := of_decide_eq_false hc9
 refine WP.exit (Pst.then_exit (Pst.then_exit (Pst.blk_eq (Pst.norm ?_))))
 refine rg <| as_ rfl <| dn ?_
 refine WP.ret (Pst.body_ret rfl rfl rfl ?_)
 have hq2 : ((-1) : Int) = (idxOf f s) := by exact (idxOf_none (all_take hno (by omega))).symm
 exact ⟨by rw [← hq2] <;> rfl, K1⟩

theorem ContainsFuncEntry_ok {S0 : Nat → Prop} (w : World) {A_s : Option Addr} {c_s : Nat} {s : List AEntry} (h_s : Sl tEntry S0 w A_s c_s s) {f_f : FuncId} {k_f : List Value} (q_f : Callable Tryz.prog f_f) (f : AEntry → Bool) (h_f : ∀ (w' : World) (x : AEntry), Ext w w' → x ∈ s → Rets Tryz.prog f_f (([.agg #[.int .i64 x.Term, .int .i64 x.Cmd.Client, .int .i64 x.Cmd.Seq, .int .i64 x.Cmd.Kind, .int .i64 x.Cmd.A, .int .i64 x.Cmd.B, .int .i64 x.Cmd.C]] : List Value) ++ k_f).toArray w' fun v w'' => v = .bool (f x) ∧ Ext w' w'') :
    Rets Tryz.prog 20 #[.slice A_s s.length c_s, .func (.func f_f) #[] k_f.toArray] w fun v w' => v = .bool (s.any f) ∧ Hp w S0 w' [] := by
 refine WP.enter Tryz.func20 rfl Tryz.ntmps20 rfl ?_
 have H0 := Hp.init w S0
 have hb_s := h_s.len_le
 refine rg <| as_ rfl <| dn <| rg <| mv rfl <| mv rfl ?_
 refine C0 H0 rfl rfl rfl cl_59 (IndexFuncEntry_ok _ (H0.a h_s).any q_f f (fun w' x e hm => h_f w' x (H0.ext.trans e) hm)) fun w1 K1 => ?_
 refine ev (Ev.geq rfl rfl) <| as_ rfl <| dn ?_
 refine WP.ret (Pst.body_ret rfl rfl rfl ?_)
 have hq1 : (decide (0 ≤ idxOf f s) : Bool) = (s.any f) := by exact idx_any f s
 exact ⟨by rw [hq1] <;> rfl, K1⟩

theorem fsize_ok {S0 : Nat → Prop} (w : World) {A_b : Option Addr} {c_b : Nat} {b : List (BitVec 8)} (h_b : Sl tByte S0 w A_b c_b b) :
    Rets Tryz.prog 65 #[.slice A_b b.length c_b] w fun v w' => v = .tuple #[.int .i64 (((sizeF b).1 : Nat) : Int), .int .i64 ((sizeF b).2)] ∧ Hp w S0 w' [] := by
 refine WP.enter Tryz.func65 rfl Tryz.ntmps65 rfl ?_
 have H0 := Hp.init w S0
 have hb_b := h_b.len_le
 refine rg <| as_ rfl <| as_ rfl <| dn <| WP.seq <| WP.block <| rg <| mv rfl <| ev (Ev.len Tryz.underlying32 rfl) <| ev (Ev.eql rfl rfl) <| as_ rfl <| dn ?_
 refine WP.cond_end rfl (fun hc5 => ?_) (fun hc5 => ?_)
 ·
  replace hc5 := of_decide_eq_true hc5
  refine rg <| as_ rfl <| as_ rfl <| dn ?_
  refine WP.ret (Pst.blk_ret (Pst.then_ret (Pst.body_ret rfl rfl rfl ?_)))
  have hq1 : (0 : Nat) = ((sizeF b).1) := by unfold sizeF; rw [if_pos (by omega)]
  have hq2 : (3 : Int) = ((sizeF b).2) := by unfold sizeF; rw [if_pos (by omega)]
  exact ⟨by rw [← hq1, ← hq2] <;> rfl, H0⟩
 replace hc5 := of_decide_eq_false hc5
 refine rg <| mv rfl ?_
 obtain ⟨x1, hx1⟩ := get_some (xs := b) (i := 0) (by omega)
 refine ev (Ev.index (i := 0) Tryz.underlying32 sz_5 rfl rfl rfl (lt_of_get hx1) ((H0.a h_b).some_ hx1)) <| ev (Ev.loadCell na_5 rfl ((H0.a h_b).flat_cell (j := 0) hx1 rfl)) ?_
 refine ev (Ev.neq rfl rfl) <| as_ rfl <| dn ?_
 refine WP.cond_end rfl (fun hc9 => ?_) (fun hc9 => ?_)
 ·
  replace hc9 := not_dec_t hc9
  refine rg <| as_ rfl <| as_ rfl <| dn ?_
  refine WP.ret (Pst.blk_ret (Pst.then_ret (Pst.body_ret rfl rfl rfl ?_)))
  have hq3 : (0 : Nat) = ((sizeF b).1) := by rw [size_bad hx1 hc9]
  have hq4 : (2 : Int) = ((sizeF b).2) := by rw [size_bad hx1 hc9]
  exact ⟨by rw [← hq3, ← hq4] <;> rfl, H0⟩
 replace hc9 := not_dec_f hc9
 refine rg <| mv rfl <| ev (Ev.len Tryz.underlying32 rfl) <| ev (Ev.lss rfl rfl) <| as_ rfl <| dn ?_
 refine WP.cond_end rfl (fun hc14 => ?_) (fun hc14 => ?_)
 ·
  replace hc14 := of_decide_eq_true hc14
  refine rg <| as_ rfl <| as_ rfl <| dn ?_
  refine WP.ret (Pst.blk_ret (Pst.then_ret (Pst.body_ret rfl rfl rfl ?_)))
  have hq5 : (0 : Nat) = ((sizeF b).1) := by unfold sizeF; rw [if_neg (by omega), getD_of hx1, if_neg (fun h => h (by omega)), if_pos (by omega)]
  have hq6 : (3 : Int) = ((sizeF b).2) := by unfold sizeF; rw [if_neg (by omega), getD_of hx1, if_neg (fun h => h (by omega)), if_pos (by omega)]
  exact ⟨by rw [← hq5, ← hq6] <;> rfl, H0⟩
 replace hc14 := of_decide_eq_false hc14
 refine WP.skip (Pst.blk_norm (Pst.norm ?_))
 refine WP.draw (by kernel_rfl) (by kernel_rfl) <| WQ.ev (Ev.move rfl) rfl ?_
 obtain ⟨x2, hx2⟩ := get_some (xs := b) (i := 2) (by omega)
 refine WQ.ev (Ev.index (i := 2) Tryz.underlying32 sz_5 rfl rfl rfl (lt_of_get hx2) ((H0.a h_b).some_ hx2)) rfl <| WQ.ev (Ev.loadCell na_5 rfl ((H0.a h_b).flat_cell (j := 0) hx2 rfl)) rfl ?_
 refine WQ.ev (Ev.convNat (m := (x2).toNat) cv_5_3.1 cv_5_3.2.1 cv_5_3.2.2 rfl (wrap_nat_i64 (by have := (x2).isLt; omega))) rfl <| WQ.ev (Ev.shlI (m := (x2).toNat) (c := 8) rfl rfl (by omega) (by have := x2.isLt; omega)) rfl ?_
 refine WQ.ev (Ev.move rfl) rfl ?_
 obtain ⟨x3, hx3⟩ := get_some (xs := b) (i := 3) (by omega)
 refine WQ.ev (Ev.index (i := 3) Tryz.underlying32 sz_5 rfl rfl rfl (lt_of_get hx3) ((H0.a h_b).some_ hx3)) rfl <| WQ.ev (Ev.loadCell na_5 rfl ((H0.a h_b).flat_cell (j := 0) hx3 rfl)) rfl ?_
 refine WQ.ev (Ev.convNat (m := (x3).toNat) cv_5_3.1 cv_5_3.2.1 cv_5_3.2.2 rfl (wrap_nat_i64 (by have := (x3).isLt; omega))) rfl <| WQ.ev (Ev.orI (m := (x2).toNat) (c := (x3).toNat) rfl rfl (by have := x3.isLt; omega) (by have := x2.isLt; have := x3.isLt; omega)) rfl ?_
 refine WQ.ev (Ev.assign rfl) rfl ?_
 refine WQ.done fun w1 e1 => ?_
 have K1 := H0.grow e1
 refine WP.seq <| WP.block <| rg <| mv rfl <| ev (Ev.gtr rfl rfl) <| as_ rfl <| dn ?_
 refine WP.cond_end rfl (fun hc28 => ?_) (fun hc28 => ?_)
 ·
  replace hc28 := of_decide_eq_true hc28
  refine rg <| as_ rfl <| as_ rfl <| dn ?_
  refine WP.ret (Pst.blk_ret (Pst.then_ret (Pst.body_ret rfl rfl rfl ?_)))
  have hq7 : (0 : Nat) = ((sizeF b).1) := by rw [size_at hx1 (by omega) (by omega) hx2 hx3, if_pos (by omega)]
  have hq8 : (7 : Int) = ((sizeF b).2) := by rw [size_at hx1 (by omega) (by omega) hx2 hx3, if_pos (by omega)]
  exact ⟨by rw [← hq7, ← hq8] <;> rfl, K1⟩
 replace hc28 := of_decide_eq_false hc28
 refine rg <| mv rfl <| ev (Ev.len Tryz.underlying32 rfl) <| mv rfl <| ev (Ev.add rfl rfl (I64.mk (by have := x2.isLt; have := x3.isLt; omega) (by have := x2.isLt; have := x3.isLt; omega))) ?_
 refine ev (Ev.add rfl rfl (I64.mk (by have := x2.isLt; have := x3.isLt; omega) (by have := x2.isLt; have := x3.isLt; omega))) <| ev (Ev.lss rfl rfl) <| as_ rfl ?_
 refine dn ?_
 refine WP.cond_end rfl (fun hc31 => ?_) (fun hc31 => ?_)
 ·
  replace hc31 := of_decide_eq_true hc31
  refine rg <| as_ rfl <| as_ rfl <| dn ?_
  refine WP.ret (Pst.blk_ret (Pst.then_ret (Pst.body_ret rfl rfl rfl ?_)))
  have hq9 : (0 : Nat) = ((sizeF b).1) := by rw [size_at hx1 (by omega) (by omega) hx2 hx3, if_neg (by omega), if_pos (by omega)]
  have hq10 : (3 : Int) = ((sizeF b).2) := by rw [size_at hx1 (by omega) (by omega) hx2 hx3, if_neg (by omega), if_pos (by omega)]
  exact ⟨by rw [← hq9, ← hq10] <;> rfl, K1⟩
 replace hc31 := of_decide_eq_false hc31
 refine WP.skip (Pst.blk_norm (Pst.norm ?_))
 refine rg <| mv rfl <| ev (Ev.add rfl rfl (I64.mk (by have := x2.isLt; have := x3.isLt; omega) (by have := x2.isLt; have := x3.isLt; omega))) <| ev (Ev.add rfl rfl (I64.mk (by have := x2.isLt; have := x3.isLt; omega) (by have := x2.isLt; have := x3.isLt; omega))) ?_
 refine WL.re (t := 40) rfl (congrArg (Value.int .i64) (show (4 + ((((x2).toNat) * 256 + ((x3).toNat) : Nat) : Int) + 4 : Int) = ((4 + (x2.toNat * 256 + x3.toNat) + 4 : Nat) : Int) by omega)) ?_
 refine as_ rfl <| as_ rfl <| dn ?_
 refine WP.ret (Pst.body_ret rfl rfl rfl ?_)
 have hq11 : (4 + (x2.toNat * 256 + x3.toNat) + 4 : Nat) = ((sizeF b).1) := by rw [size_at hx1 (by omega) (by omega) hx2 hx3, if_neg (by omega), if_neg (by omega)]
 have hq12 : (0 : Int) = ((sizeF b).2) := by rw [size_at hx1 (by omega) (by omega) hx2 hx3, if_neg (by omega), if_neg (by omega)]
 exact ⟨by rw [hq11, ← hq12] <;> rfl, K1⟩

theorem Get_ok {S0 : Nat → Prop} (w : World) {A_b : Option Addr} {c_b : Nat} {b : List (BitVec 8)} (h_b : Sl tByte S0 w A_b c_b b) (hn : b.length ≤ 70000) :
    Rets Tryz.prog 26 #[.slice A_b b.length c_b] w fun v w' => ∃ (B0_0 : Option Addr) (d0_0 : Nat), v = .tuple #[.agg #[.int .i64 ((⟨((getF b).1.1 : Int), (getF b).1.2⟩ : AFrame).Kind), .slice B0_0 (((⟨((getF b).1.1 : Int), (getF b).1.2⟩ : AFrame).Body).length) d0_0], .int .i64 (((getF b).2.1 : Nat) : Int), .int .i64 ((getF b).2.2)] ∧ Hp w S0 w' [rOwn tByte 5 B0_0 d0_0 ((⟨((getF b).1.1 : Int), (getF b).1.2⟩ : AFrame).Body)] := by
 refine WP.enter Tryz.func26 rfl Tryz.ntmps26 rfl ?_
 have H0 := Hp.init w S0
 have hb_b := h_b.len_le
 refine rg ?_
 refine al zero_38 rfl H0 fun g1 w1 K1 => ?_
 refine as_ rfl <| as_ rfl <| dn <| rg <| mv rfl ?_
 refine C0 K1 rfl rfl rfl cl_65 (fsize_ok _ (K1.a h_b).any) fun w2 K2 => ?_
 refine mv rfl <| xt rfl rfl <| xt rfl rfl <| as_ rfl <| as_ rfl <| dn <| WP.seq <| rg <| mv rfl <| ev (Ev.neq rfl rfl) <| dn ?_
 refine WP.cond_end rfl (fun hc15 => ?_) (fun hc15 => ?_)
 ·
  replace hc15 := not_dec_t hc15
  refine rg <| ev (Ev.build (vs := []) (cs := [.int .i64 0, .slice none 0 0]) rfl (by apply bl_38_)) <| mv rfl ?_
  refine stw rfl rfl rfl sz_38 K2 s0 rfl rfl fun w3 K3 => ?_
  refine as_ rfl <| as_ rfl <| dn ?_
  refine WP.ret (Pst.then_ret (Pst.retC rfl ⟨_, _, rfl, ⟨_, rfl, loads_box (cs := [.int .i64 0, .slice none 0 0]) ag_38 rfl (K3.x s0)⟩, ⟨_, _, rfl, rfl, ⟨_, _, rfl, rfl, rfl⟩⟩⟩ ?_))
  have hq1 : ((⟨0, []⟩ : AFrame) : AFrame) = (⟨((getF b).1.1 : Int), (getF b).1.2⟩ : AFrame) := by rw [get_err hc15]; rfl
  have hq2 : (0 : Int) = (⟨((getF b).1.1 : Int), (getF b).1.2⟩ : AFrame).Kind := by rw [← hq1]
  have H1 := K3.nil tByte 5
  have hq3 : (([] : List (BitVec 8)) : List (BitVec 8)) = ((⟨((getF b).1.1 : Int), (getF b).1.2⟩ : AFrame).Body) := by rw [← hq1]
  have hq4 : (0 : Nat) = ((getF b).2.1) := by rw [get_err hc15]
  have hq5 : ((sizeF b).2 : Int) = ((getF b).2.2) := by rw [get_err hc15]
  exact ⟨none, 0, by first | (rw [hq5, ← hq2, ← hq4, ← hq3] <;> rfl) | (rw [hq5, ← hq3, ← hq2, ← hq4] <;> rfl), by rw [← hq3]; exact (H1.rm s1)⟩
 replace hc15 := not_dec_f hc15
 have hsz := size_le (b := b) (by omega)
 refine WP.skip (Pst.norm ?_)
 refine rg <| mv rfl <| mv rfl <| ev (Ev.cutTo (hi := (sizeF b).1) (xs := b) Tryz.underlying32 sz_5 rfl rfl rfl (by exact hsz.1) (K2.a h_b).cap) <| WL.call rfl rfl rfl cl_66 (Open_ok _ ((K2.a h_b).cutTo (hi := (sizeF b).1) (by exact hsz.1)).any (by rw [List.length_take]; omega)) rfl ?_
 rintro _ w4 ⟨A0_4, c0_4, rfl, h4⟩
 have K4 := K2.f1 h4
 have hL4_0 := (K4.o s0).len_le
 refine mv rfl <| xt rfl rfl <| xt rfl rfl <| as_ rfl <| as_ rfl <| dn <| WP.seq <| rg <| mv rfl <| ev (Ev.not rfl) <| dn ?_
 refine WP.cond_end rfl (fun hc26 => ?_) (fun hc26 => ?_)
 ·
  try simp only [Bool.or_eq_true, Bool.or_eq_false_iff, Bool.and_eq_true, Bool.and_eq_false_imp, Bool.not_eq_true', Bool.not_eq_false', decide_eq_true_eq, decide_eq_false_iff_not] at hc26
  refine rg <| ev (Ev.build (vs := []) (cs := [.int .i64 0, .slice none 0 0]) rfl (by apply bl_38_)) ?_
  refine stw rfl rfl rfl sz_38 K4 s1 rfl rfl fun w5 K5 => ?_
  refine as_ rfl <| as_ rfl <| dn ?_
  refine WP.ret (Pst.then_ret (Pst.retC rfl ⟨_, _, rfl, ⟨_, rfl, loads_box (cs := [.int .i64 0, .slice none 0 0]) ag_38 rfl (K5.x s0)⟩, ⟨_, _, rfl, rfl, ⟨_, _, rfl, rfl, rfl⟩⟩⟩ ?_))
  have hq6 : ((⟨0, []⟩ : AFrame) : AFrame) = (⟨((getF b).1.1 : Int), (getF b).1.2⟩ : AFrame) := by rw [get_no (by omega) (by simpa using hc26)]; rfl
  have hq7 : (0 : Int) = (⟨((getF b).1.1 : Int), (getF b).1.2⟩ : AFrame).Kind := by rw [← hq6]
  have H2 := K5.nil tByte 5
  have hq8 : (([] : List (BitVec 8)) : List (BitVec 8)) = ((⟨((getF b).1.1 : Int), (getF b).1.2⟩ : AFrame).Body) := by rw [← hq6]
  have hq9 : (0 : Nat) = ((getF b).2.1) := by rw [get_no (by omega) (by simpa using hc26)]
  have hq10 : (4 : Int) = ((getF b).2.2) := by rw [get_no (by omega) (by simpa using hc26)]
  exact ⟨none, 0, by first | (rw [← hq7, ← hq9, ← hq10, ← hq8] <;> rfl) | (rw [← hq8, ← hq7, ← hq9, ← hq10] <;> rfl), by rw [← hq8]; exact ((H2.rm s2).rm s1)⟩
 try simp only [Bool.or_eq_true, Bool.or_eq_false_iff, Bool.and_eq_true, Bool.and_eq_false_imp, Bool.not_eq_true', Bool.not_eq_false', decide_eq_true_eq, decide_eq_false_iff_not] at hc26
 have hl7 : (((openL (b.take (sizeF b).1)).getD [])).length = (b.take (sizeF b).1).length - 4 := open_len' (by simpa using hc26)
 have hl8 : (b.take (sizeF b).1).length = (sizeF b).1 := by rw [List.length_take]; omega
 refine WP.skip (Pst.norm ?_)
 obtain ⟨x1, hx1⟩ := get_some (xs := (openL (b.take ((sizeF b).1))).getD []) (i := 1) (by omega)
 refine He K4 (fun _ K => (K.rm s1)) (fun l0 rk lJ wJ => ∃ (Aj1 : Option Addr) (cj1 : Nat), lJ = (3, .int .i64 (((sizeF b).1 : Nat) : Int)) :: l0 ∧ Hp w S0 wJ (rBx g1 38 [.int .i64 (((x1).toNat : Nat) : Int), .slice Aj1 ((((openL (b.take ((sizeF b).1))).getD []).drop 4).length) cj1] :: rOwn tByte 5 Aj1 cj1 (((openL (b.take ((sizeF b).1))).getD []).drop 4) :: rk)) (fun hns H3 => ?_) ?_
 ·
  have k1 := (H3.rm s1)
  refine Tm 0 1 hns rfl rfl k1 <| Tn 1 3 hns rfl (fun _ hK => Ev.index (i := 1) Tryz.underlying32 sz_5 rfl rfl rfl (lt_of_get hx1) ((hK.o s0).some_ hx1)) k1 <| Tn 2 7 hns rfl (fun _ hK => Ev.loadCell na_5 rfl ((hK.o s0).flat_cell (j := 0) hx1 rfl)) k1 ?_
  refine Tn 3 15 hns rfl (fun _ _ => Ev.convNat (m := (x1).toNat) cv_5_3.1 cv_5_3.2.1 cv_5_3.2.2 rfl (wrap_nat_i64 (by have := (x1).isLt; omega))) k1 <| Tm 4 31 hns rfl rfl k1 ?_
  refine Tn 5 63 hns rfl (fun _ hK => Ev.cutFrom (lo := 4) (xs := (openL (b.take ((sizeF b).1))).getD []) Tryz.underlying32 sz_5 rfl rfl rfl (by rw [open_len' hc26]; omega) (hK.o s0).cap) k1 ?_
  refine Tm 8 319 hns rfl rfl k1 <| O1 6 rfl <| WL.call rfl rfl rfl cl_22 (CloneByte_ok _ ((H3.o s0).cutFrom (lo := 4) (by rw [open_len' hc26]; omega)) (by rw [List.length_drop]; omega)) rfl ?_
  rintro _ w6 ⟨A0_6, c0_6, rfl, h6⟩
  have K6 := H3.f1 h6
  have hL6_0 := (K6.o s0).len_le
  have k2 := ((K6.rm s2).rm s0)
  refine WH.next k2 <| Tn 7 511 hns rfl (fun _ _ => Ev.build (vs := [(0, .int .i64 (((x1).toNat : Nat) : Int)), (1, .slice A0_6 ((((openL (b.take ((sizeF b).1))).getD []).drop 4).length) c0_6)]) (cs := [.int .i64 (((x1).toNat : Nat) : Int), .slice A0_6 ((((openL (b.take ((sizeF b).1))).getD []).drop 4).length) c0_6]) rfl (by apply bl_38_0I_1S)) k2 ?_
  refine O1 9 rfl ?_
  refine stw rfl rfl rfl sz_38 K6 s2 rfl rfl fun w7 K7 => ?_
  have k3 := ((K7.rm s1).rm s0)
  refine WH.next k3 <| Ta 10 2047 hns rfl rfl k3 <| Ta 11 4095 hns rfl rfl k3 ?_
  exact Dn ⟨A0_6, c0_6, rfl, K7⟩ rfl
 rintro _ w8 ⟨Aj1, cj1, rfl, K8⟩
 refine WP.ret (Pst.retC rfl ⟨_, _, rfl, ⟨_, rfl, loads_box (cs := [.int .i64 (((x1).toNat : Nat) : Int), .slice Aj1 ((((openL (b.take ((sizeF b).1))).getD []).drop 4).length) cj1]) ag_38 rfl (K8.x s0)⟩, ⟨_, _, rfl, rfl, ⟨_, _, rfl, rfl, rfl⟩⟩⟩ ?_)
 have hq11 : ((⟨(((x1).toNat : Nat) : Int), (((openL (b.take ((sizeF b).1))).getD []).drop 4)⟩ : AFrame) : AFrame) = (⟨((getF b).1.1 : Int), (getF b).1.2⟩ : AFrame) := by rw [get_yes (by omega) (by simpa using hc26), getD_of hx1]
 have hq12 : ((((x1).toNat : Nat) : Int) : Int) = (⟨((getF b).1.1 : Int), (getF b).1.2⟩ : AFrame).Kind := by rw [← hq11]
 have hq13 : ((((openL (b.take ((sizeF b).1))).getD []).drop 4) : List (BitVec 8)) = ((⟨((getF b).1.1 : Int), (getF b).1.2⟩ : AFrame).Body) := by rw [← hq11]
 have hq14 : ((sizeF b).1 : Nat) = ((getF b).2.1) := by rw [get_yes (by omega) (by simpa using hc26)]
 have hq15 : (0 : Int) = ((getF b).2.2) := by rw [get_yes (by omega) (by simpa using hc26)]
 exact ⟨Aj1, cj1, by first | (rw [hq12, hq14, hq13, ← hq15] <;> rfl) | (rw [hq13, hq12, hq14, ← hq15] <;> rfl), by rw [← hq13]; exact ((K8.rm s2).rm s0)⟩

end Go.Proofs.YtlnjmkmhmbijmaaGreat
