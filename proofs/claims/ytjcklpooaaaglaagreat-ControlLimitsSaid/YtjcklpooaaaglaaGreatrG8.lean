/- Contracts of functions: what each call hands back, and that it leaves all that was there as it was. -/
import Derived.Test.YtjcklpooaaaglaaGreatrG7
set_option maxRecDepth 4000
set_option linter.all false
namespace Go.Proofs.YtjcklpooaaaglaaGreat
open Go.RowKit

def tillL (b : ABeat) (limit : Int) : Int := b.At + (if (1099511627776 : Int) < (if 0 > limit then 0 else limit) then 1099511627776 else (if 0 > limit then 0 else limit))
def dlivB (now limit : Int) (b : ABeat) : Bool := decide (now ≤ tillL b limit)
def dlivL (l : List ABeat) (now limit : Int) : List ABeat := (bFair l).filter (dlivB now limit)
theorem bRise_may : ∀ (l : List ABeat) (z : Int), bRise z l = true → ∀ b ∈ l, bMay b = true
  | [], _, _, b, hb => by simp at hb
  | c :: l, z, h, b, hb => by
    simp only [bRise, Bool.and_eq_true] at h
    rcases List.mem_cons.1 hb with rfl | hb
    · exact h.1.1
    · exact bRise_may l _ h.2 b hb
theorem bFair_at {l : List ABeat} {b : ABeat} (hb : b ∈ bFair l) : 1 ≤ b.Node ∧ b.Node ≤ 16 ∧ 0 ≤ b.At ∧ b.At ≤ 1099511627776 := by
  unfold bFair at hb; split at hb
  · rename_i h; have := bRise_may l 0 h b hb; simp only [bMay, Bool.and_eq_true, decide_eq_true_eq] at this; exact ⟨this.1.1.1, this.1.1.2, this.1.2, this.2⟩
  · simp at hb
theorem filter_pre {α : Type} {p : α → Bool} {l : List α} {k : Nat} {x : α} (hx : l[k]? = some x) (hp : p x = true) : (l.take k).filter p ++ [x] <+: l.filter p := by
  refine ⟨(l.drop (k + 1)).filter p, ?_⟩
  have h1 := filter_snoc (p := p) hx
  rw [if_pos hp] at h1
  rw [← h1, ← List.filter_append, List.take_append_drop]

theorem na_27 : NotAgg Tryz.prog 27 := fun _ => by kernel_rfl
theorem cl_116 : Callable Tryz.prog 116 := fun _ _ => by kernel_rfl
theorem cl_117 : Callable Tryz.prog 117 := fun _ _ => by kernel_rfl
theorem zero_51 : ∀ w, (zeroValue 51).run Tryz.prog w = .ok (.slice none 0 0) w := fun _ => by kernel_rfl
theorem cl_71 : Callable Tryz.prog 71 := fun _ _ => by kernel_rfl
theorem cl_115 : Callable Tryz.prog 115 := fun _ _ => by kernel_rfl
theorem till_ok {S0 : Nat → Prop} (w : World) (b : ABeat) (limit : Int) (hA : 0 ≤ b.At ∧ b.At ≤ 1099511627776) :
    Rets Tryz.prog 117 #[.agg #[.int .i64 b.Node, .int .i64 b.At], .int .i64 limit] w fun v w' => v = .int .i64 (tillL b limit) ∧ Hp w S0 w' [] := by
 refine WP.enter Tryz.func117 rfl Tryz.ntmps117 rfl ?_
 have H0 := Hp.init w S0
 refine rg ?_
 refine bx (cs := [.int .i64 b.Node, .int .i64 b.At]) rfl rfl H0 fun g1 w1 K1 => ?_
 refine as_ rfl <| dn <| rg <| ev (Ev.field (q := ⟨g1, 1, none⟩) fa_72_1 rfl rfl) <| ev (Ev.loadBoxCell na_3 rfl (K1.x s0) rfl) <| mv rfl <| ev (Ev.max2 rfl rfl) ?_
 refine ev (Ev.min2 rfl rfl) <| ev (Ev.add rfl rfl (I64.mk (by split <;> (try split) <;> omega) (by split <;> (try split) <;> omega))) <| as_ rfl <| dn ?_
 refine WP.ret (Pst.body_ret rfl rfl rfl ?_)
 have hq1 : (b.At + (if 1099511627776 < (if 0 > limit then 0 else limit) then 1099511627776 else (if 0 > limit then 0 else limit)) : Int) = (tillL b limit) := by rfl
 exact ⟨by rw [hq1] <;> rfl, (K1.rm s0)⟩

theorem living1_iter {b : World} {S : Nat → Prop} {gl gn gt : Nat} {A_l : Option Addr} {c_l : Nat} {l : List ABeat} {now limit : Int} (hn : l.length ≤ 800000) :
    Iter Tryz.prog 115 [.pointer (some ⟨gl, 0, none⟩), .pointer (some ⟨gn, 0, none⟩), .pointer (some ⟨gt, 0, none⟩)] (fun (x : ABeat) => [.agg #[.int .i64 x.Node, .int .i64 x.At]]) (dlivL l now limit) b S [rBx gl 27 [.slice A_l l.length c_l], rBx gn 3 [.int .i64 now], rBx gt 3 [.int .i64 limit], rSl tBeat A_l c_l l] := by
 intro lr Jf Jx w F0 H0 h0 hY
 refine WP.enterI Tryz.func115 rfl Tryz.ntmps115 rfl ?_
 have K0 := Hp.comm (F := F0) H0
 have hf := bFair_len l
 refine rg <| ev (Ev.loadBoxCell na_27 rfl (K0.x s0) rfl) <| WL.call rfl rfl rfl cl_116 (dfair_ok _ (K0.s s3).any (by first | omega | (simp; done) | decide)) rfl ?_
 rintro _ w1 ⟨A0_1, c0_1, rfl, h1⟩
 have K1 := K0.f1 h1
 have hL1_0 := (K1.o s0).len_le
 refine ev (Ev.len Tryz.underlying27 rfl) <| mv rfl <| dn <| WP.block ?_
 have hq1 : (0 : Int) = ((0 : Nat) : Int) := by simp
 refine WP.re (t := 10) rfl (congrArg (Value.int .i64) hq1) <| WP.lp (fun mJ lJ wJ => ∃ (k : Nat) (F : List Res), lJ = [(0, .func (.yield lr) #[] #[]), (2, .pointer (some ⟨gn, 0, none⟩)), (3, .pointer (some ⟨gt, 0, none⟩)), (8, .slice A0_1 ((bFair l).length) c0_1), (9, .int .i64 (((bFair l).length : Nat) : Int)), (10, .int .i64 ((k : Nat) : Int))] ∧ mJ = (bFair l).length - k ∧ k ≤ (bFair l).length ∧ (Jf (((bFair l).take k).filter (dlivB now limit)) F) ∧ Hp b S wJ (rOwn tBeat 72 A0_1 c0_1 (bFair l) :: rBx gl 27 [.slice A_l l.length c_l] :: rBx gn 3 [.int .i64 now] :: rBx gt 3 [.int .i64 limit] :: rSl tBeat A_l c_l l :: F)) ⟨0, F0, rfl, rfl, Nat.zero_le _, by simpa using h0, K1⟩ rfl ?_
 rintro _ _ w2 ⟨k, F, rfl, rfl, hk, hJt, K2⟩
 refine rg <| ev (Ev.lss rfl rfl) <| dn ?_
 refine WP.cond rfl (fun hc11 => ?_) (fun hc11 => ?_)
 ·
  replace hc11 := of_decide_eq_true hc11
  refine WP.skip (Pst.norm ?_)
  refine WP.seq <| WP.block <| rg ?_
  obtain ⟨x1, hx1⟩ := get_some (xs := bFair l) (i := k) (by omega)
  refine ev (Ev.index (i := k) Tryz.underlying27 sz_72 rfl rfl rfl (lt_of_get hx1) ((K2.o s0).some_ hx1)) <| ev (Ev.loadRow ag_72 rfl rfl ((K2.o s0).flat_row hx1)) ?_
  refine al (cs := [.int .i64 0, .int .i64 0]) zero_72 rfl K2 fun g1 w3 K3 => ?_
  refine stw (ds := [.int .i64 x1.Node, .int .i64 x1.At]) rfl rfl rfl sz_72 K3 s0 rfl rfl fun w4 K4 => ?_
  refine dn <| WP.dr (by kernel_rfl) ?_
  have H1 := K4.grow (Ext.refl w4).drew
  refine WI.block (S := fun wK => Hp b S wK (rBx g1 72 [.int .i64 x1.Node, .int .i64 x1.At] :: rOwn tBeat 72 A0_1 c0_1 (bFair l) :: rBx gl 27 [.slice A_l l.length c_l] :: rBx gn 3 [.int .i64 now] :: rBx gt 3 [.int .i64 limit] :: rSl tBeat A_l c_l l :: F)) [(0, 14, .int .i64 now), (1, 15, .agg #[.int .i64 x1.Node, .int .i64 x1.At]), (2, 16, .int .i64 limit), (3, 17, .int .i64 (tillL x1 limit)), (4, 18, .bool (decide (now ≤ tillL x1 limit))), (5, 19, .bool (decide (now ≤ tillL x1 limit)))] 5 (List.toArray [true, true, true, true, true, true, false, false, false, false, false]) (lay_ok (by kernel_rfl)) rfl rfl rfl ?_ H1 ?_
  ·
   simp only [List.forall_mem_cons, List.not_mem_nil, false_implies, implies_true, and_true]
   refine ⟨?_, ?_, ?_, ?_, ?_, ?_⟩
   ·
    exact ⟨_, rfl, rfl, rfl, rfl, Qi.ev (fun _ hK => (Ev.loadBoxCell na_3 rfl (hK.x s3) rfl))⟩
   ·
    exact ⟨_, rfl, rfl, rfl, rfl, Qi.ev (fun _ hK => (Ev.loadBox ag_72 rfl rfl (hK.x s0)))⟩
   ·
    exact ⟨_, rfl, rfl, rfl, rfl, Qi.ev (fun _ hK => (Ev.loadBoxCell na_3 rfl (hK.x s4) rfl))⟩
   ·
    exact ⟨_, rfl, rfl, rfl, rfl, Qi.call rfl rfl rfl cl_117 (fun _ hK => (till_ok (S0 := Any) _ x1 limit (bFair_at (mem_of_get hx1)).2.2).mono (by rintro _ _ ⟨rfl, hq2⟩; exact ⟨rfl, hK.grow hq2.ext⟩))⟩
   ·
    exact ⟨_, rfl, rfl, rfl, rfl, Qi.ev (fun _ hK => (Ev.leq rfl rfl))⟩
   ·
    exact ⟨_, rfl, rfl, rfl, rfl, Qi.ev (fun _ hK => (Ev.move rfl))⟩
  intro w5 K5
  cases hb19 : decide (now ≤ tillL x1 limit) with
  | true =>
   have hb19p := of_decide_eq_true hb19
   refine WI.block (S := fun wK => Hp b S wK (rBx g1 72 [.int .i64 x1.Node, .int .i64 x1.At] :: rOwn tBeat 72 A0_1 c0_1 (bFair l) :: rBx gl 27 [.slice A_l l.length c_l] :: rBx gn 3 [.int .i64 now] :: rBx gt 3 [.int .i64 limit] :: rSl tBeat A_l c_l l :: F)) [(6, 20, .func (.yield lr) #[] #[]), (7, 21, .agg #[.int .i64 x1.Node, .int .i64 x1.At])] 3 (List.toArray [true, true, true, true, true, true, true, true, false, false, false]) (by kernel_rfl) rfl rfl rfl ?_ K5 ?_
   ·
    simp only [List.forall_mem_cons, List.not_mem_nil, false_implies, implies_true, and_true]
    refine ⟨?_, ?_⟩
    ·
     exact ⟨_, rfl, rfl, rfl, rfl, Qi.evg rfl (fun _ hK => (Ev.move rfl))⟩
    ·
     exact ⟨_, rfl, rfl, rfl, rfl, Qi.evg rfl (fun _ hK => (Ev.loadBox ag_72 rfl rfl (hK.x s0)))⟩
   intro w6 K6
   refine WI.one 8 (by kernel_rfl) rfl ?_
   have hy1 := hY (((bFair l).take k).filter (dlivB now limit)) x1 _ _ _ hJt (filter_pre hx1 (by exact hb19)) (Hp.comm (F := [rBx g1 72 [.int .i64 x1.Node, .int .i64 x1.At], rOwn tBeat 72 A0_1 c0_1 (bFair l), rBx gl 27 [.slice A_l l.length c_l], rBx gn 3 [.int .i64 now], rBx gt 3 [.int .i64 limit], rSl tBeat A_l c_l l]) K6)
   refine WL.yield rfl rfl rfl hy1 (by rintro e w' (⟨rfl, _⟩ | ⟨rfl, _⟩) <;> exact ⟨_, rfl⟩) rfl rfl rfl ?_
   rintro v w7 (⟨hv, F1, hJ1, K7⟩ | ⟨hv, F1, hJ1, K7⟩)
   ·
    cases hv
    have K7c := Hp.comm (F := F1) K7
    refine WI.nx <| WI.block (S := fun wK => Hp b S wK (rBx g1 72 [.int .i64 x1.Node, .int .i64 x1.At] :: rOwn tBeat 72 A0_1 c0_1 (bFair l) :: rBx gl 27 [.slice A_l l.length c_l] :: rBx gn 3 [.int .i64 now] :: rBx gt 3 [.int .i64 limit] :: rSl tBeat A_l c_l l :: F1)) [(9, 23, .bool false), (10, 24, .bool false)] 0 (List.toArray [true, true, true, true, true, true, true, true, true, true, true]) (by kernel_rfl) rfl rfl rfl ?_ K7c ?_
    ·
     simp only [List.forall_mem_cons, List.not_mem_nil, false_implies, implies_true, and_true]
     refine ⟨?_, ?_⟩
     ·
      exact ⟨_, rfl, rfl, rfl, rfl, Qi.evg rfl (fun _ hK => (Ev.not (b := true) rfl))⟩
     ·
      exact ⟨_, rfl, rfl, rfl, rfl, Qi.ev (fun _ hK => (Ev.pick_t rfl rfl))⟩
    intro w8 K8
    refine WI.dn (by kernel_rfl) ?_
    refine WP.cond_end rfl (fun _h => absurd _h (by decide)) (fun _h => ?_)
    refine WP.skip (Pst.blk_norm (Pst.norm ?_))
    refine rge <| ev (Ev.add rfl rfl (I64.mk (by omega) (by omega))) <| mv rfl <| dne ?_
    have hq2 : (((k + 1 : Nat) : Int) : Int) = (((k + 1) : Nat) : Int) := by simp
    refine Pst.re (t := 10) rfl (congrArg (Value.int .i64) hq2) ?_
    exact Pst.ag ⟨(k + 1), F1, rfl, rfl, by omega, by rw [filter_snoc hx1]; first | (rw [if_pos (show dlivB now limit x1 = true from hb19)]; assumption) | (rw [if_neg (show ¬ dlivB now limit x1 = true by rw [show dlivB now limit x1 = false from hb19]; decide), List.append_nil]; exact hJt), (K8.rm s0)⟩ rfl (by omega)
   ·
    cases hv
    have K7c := Hp.comm (F := F1) K7
    refine WI.nx <| WI.block (S := fun wK => Hp b S wK (rBx g1 72 [.int .i64 x1.Node, .int .i64 x1.At] :: rOwn tBeat 72 A0_1 c0_1 (bFair l) :: rBx gl 27 [.slice A_l l.length c_l] :: rBx gn 3 [.int .i64 now] :: rBx gt 3 [.int .i64 limit] :: rSl tBeat A_l c_l l :: F1)) [(9, 23, .bool true), (10, 24, .bool true)] 0 (List.toArray [true, true, true, true, true, true, true, true, true, true, true]) (by kernel_rfl) rfl rfl rfl ?_ K7c ?_
    ·
     simp only [List.forall_mem_cons, List.not_mem_nil, false_implies, implies_true, and_true]
     refine ⟨?_, ?_⟩
     ·
      exact ⟨_, rfl, rfl, rfl, rfl, Qi.evg rfl (fun _ hK => (Ev.not (b := false) rfl))⟩
     ·
      exact ⟨_, rfl, rfl, rfl, rfl, Qi.ev (fun _ hK => (Ev.pick_t rfl rfl))⟩
    intro w9 K9
    refine WI.dn (by kernel_rfl) ?_
    refine WP.cond_end rfl (fun _h => ?_) (fun _h => absurd _h (by decide))
    exact WP.ret (Pst.blk_ret (Pst.then_ret (Pst.then_ret (Pst.blk_ret (Pst.retI rfl ⟨⟨_, rfl⟩, .inr ⟨_, _, hJ1, ((((((K9.rm s5).rm s4).rm s3).rm s2).rm s1).rm s0)⟩⟩)))))
  | false =>
   have hb19p := of_decide_eq_false hb19
   refine WI.block (S := fun wK => Hp b S wK (rBx g1 72 [.int .i64 x1.Node, .int .i64 x1.At] :: rOwn tBeat 72 A0_1 c0_1 (bFair l) :: rBx gl 27 [.slice A_l l.length c_l] :: rBx gn 3 [.int .i64 now] :: rBx gt 3 [.int .i64 limit] :: rSl tBeat A_l c_l l :: F)) [(6, 20, undef), (7, 21, undef), (8, 22, undef), (9, 23, undef), (10, 24, .bool false)] 0 (List.toArray [true, true, true, true, true, true, true, true, true, true, true]) (by kernel_rfl) rfl rfl rfl ?_ K5 ?_
   ·
    simp only [List.forall_mem_cons, List.not_mem_nil, false_implies, implies_true, and_true]
    refine ⟨?_, ?_, ?_, ?_, ?_⟩
    ·
     exact ⟨_, rfl, rfl, rfl, rfl, Qi.pass rfl rfl⟩
    ·
     exact ⟨_, rfl, rfl, rfl, rfl, Qi.pass rfl rfl⟩
    ·
     exact ⟨_, rfl, rfl, rfl, rfl, Qi.pass rfl rfl⟩
    ·
     exact ⟨_, rfl, rfl, rfl, rfl, Qi.pass rfl rfl⟩
    ·
     exact ⟨_, rfl, rfl, rfl, rfl, Qi.ev (fun _ hK => (Ev.pick_f rfl rfl))⟩
   intro w10 K10
   refine WI.dn (by kernel_rfl) ?_
   refine WP.cond_end rfl (fun _h => absurd _h (by decide)) (fun _h => ?_)
   refine WP.skip (Pst.blk_norm (Pst.norm ?_))
   refine rge <| ev (Ev.add rfl rfl (I64.mk (by omega) (by omega))) <| mv rfl <| dne ?_
   have hq3 : (((k + 1 : Nat) : Int) : Int) = (((k + 1) : Nat) : Int) := by simp
   refine Pst.re (t := 10) rfl (congrArg (Value.int .i64) hq3) ?_
   exact Pst.ag ⟨(k + 1), F, rfl, rfl, by omega, by rw [filter_snoc hx1]; first | (rw [if_pos (show dlivB now limit x1 = true from hb19)]; assumption) | (rw [if_neg (show ¬ dlivB now limit x1 = true by rw [show dlivB now limit x1 = false from hb19]; decide), List.append_nil]; exact hJt), (K10.rm s0)⟩ rfl (by omega)
 replace hc11 := of_decide_eq_false hc11
 exact WP.exit (Pst.then_exit (Pst.then_exit (Pst.blk_eq (Pst.normI (Pst.retI rfl ⟨⟨_, rfl⟩, .inl ⟨_, by rw [List.take_of_length_le (by omega)] at hJt; exact hJt, (((((K2.rm s4).rm s3).rm s2).rm s1).rm s0)⟩⟩)))))

theorem living_ok {S0 : Nat → Prop} (w : World) {A_l : Option Addr} {c_l : Nat} {l : List ABeat} (h_l : Sl tBeat S0 w A_l c_l l) (now : Int) (limit : Int) :
    Rets Tryz.prog 71 #[.slice A_l l.length c_l, .int .i64 now, .int .i64 limit] w fun v w' => ∃ (g0_0 : Nat) (g0_1 : Nat) (g0_2 : Nat), v = .func (.func 115) #[] #[.pointer (some ⟨g0_0, 0, none⟩), .pointer (some ⟨g0_1, 0, none⟩), .pointer (some ⟨g0_2, 0, none⟩)] ∧ Hp w S0 w' [rBx g0_0 27 [.slice A_l l.length c_l], rBx g0_1 3 [.int .i64 now], rBx g0_2 3 [.int .i64 limit]] := by
 refine WP.enter Tryz.func71 rfl Tryz.ntmps71 rfl ?_
 have H0 := Hp.init w S0
 have hb_l := h_l.len_le
 refine rg ?_
 refine bx (cs := [.slice A_l l.length c_l]) rfl rfl H0 fun g1 w1 K1 => ?_
 refine bx (cs := [.int .i64 now]) rfl rfl K1 fun g2 w2 K2 => ?_
 refine bx (cs := [.int .i64 limit]) rfl rfl K2 fun g3 w3 K3 => ?_
 refine as_ rfl <| dn <| rg <| ev (Ev.func rfl) <| as_ rfl <| dn ?_
 refine WP.ret (Pst.body_ret rfl rfl rfl ?_)
 exact ⟨g1, g2, g3, rfl, (((K3.sel s0).sel s1).sel s2)⟩

theorem living_all_ok {S0 : Nat → Prop} (w : World) {A_l : Option Addr} {c_l : Nat} {l : List ABeat} (h_l : Sl tBeat S0 w A_l c_l l) (now : Int) (limit : Int) (hn : l.length ≤ 800000) :
    Rets Tryz.prog 28 #[.slice A_l l.length c_l, .int .i64 now, .int .i64 limit] w fun v w' => ∃ (A0 : Option Addr) (c0 : Nat), v = .slice A0 (((dlivL l now limit).map ABeat.Node).length) c0 ∧ Hp w S0 w' [rOwn tInt 3 A0 c0 ((dlivL l now limit).map ABeat.Node)] := by
 refine WP.enterM Tryz.func28 rfl Tryz.ntmps28 rfl ?_
 have H0 := Hp.init w S0
 have hb_l := h_l.len_le
 have hlv : (dlivL l now limit).length ≤ 800000 := by have h1 := List.length_filter_le (dlivB now limit) (bFair l); have h2 := bFair_len l; unfold dlivL; omega
 refine rg <| as_ rfl <| dn <| rg ?_
 refine al (cs := [.slice none 0 0]) zero_51 rfl H0 fun g1 w1 K1 => ?_
 refine dn <| WP.seq <| rg <| mv rfl <| mv rfl <| mv rfl <| WL.call rfl rfl rfl cl_71 (living_ok _ (K1.a h_l).any now limit) rfl ?_
 rintro _ w2 ⟨g0_0_2, g0_1_2, g0_2_2, rfl, h2⟩
 have K2 := K1.f3 h2
 refine dn <| WP.block ?_
 have H1 := K2.push (K2.a h_l)
 have H2 := H1.nil tInt 3
 refine WP.range (enc := fun (x : ABeat) => [.agg #[.int .i64 x.Node, .int .i64 x.At]]) (ys := dlivL l now limit) (F0 := [rBx g1 51 [.slice none (([].map ABeat.Node).length) 0], rOwn tInt 3 none 0 []]) (G0 := [rBx g0_0_2 27 [.slice A_l l.length c_l], rBx g0_1_2 3 [.int .i64 now], rBx g0_2_2 3 [.int .i64 limit], rSl tBeat A_l c_l l]) rfl cl_115 (living1_iter (by omega)) ((((((H2.sel s1).sel s4).sel s4).sel s4).sel s4).sel s5) (fun _ => rfl) rfl (fun pre F => ∃ (A : Option Addr) (c : Nat), F = [rBx g1 51 [.slice A ((pre.map ABeat.Node).length) c], rOwn tInt 3 A c (pre.map ABeat.Node)]) (fun c pre F => False) (fun pre x l1 F => ∃ (A : Option Addr) (c : Nat) (gm0 : Nat), l1 = [(7, .pointer (some ⟨g1, 0, none⟩)), (8, .pointer (some ⟨gm0, 0, none⟩))] ∧ F = [rBx gm0 72 [.int .i64 x.Node, .int .i64 x.At], rBx g1 51 [.slice A ((pre.map ABeat.Node).length) c], rOwn tInt 3 A c (pre.map ABeat.Node)]) ⟨none, 0, rfl⟩ ?_ ?_ ?_ ?_
 ·
  rintro lr pre x _ G w3 ⟨A, c, rfl⟩ hpre K3
  refine rge ?_
  refine al (cs := [.int .i64 0, .int .i64 0]) zero_72 rfl K3 fun g2 w4 K4 => ?_
  refine stw (ds := [.int .i64 x.Node, .int .i64 x.At]) rfl rfl rfl sz_72 K4 s0 rfl rfl fun w5 K5 => ?_
  refine dne ?_
  exact Pst.ap ⟨A, c, g2, rfl, rfl⟩ rfl K5
 ·
  rintro lr pre x _ _ G w6 ⟨A, c, gm0, rfl, rfl⟩ hpre K6
  have hpl : (pre.map ABeat.Node).length ≤ 800000 := by have h1 := hpre.length_le; simp at h1 ⊢; omega
  refine WP.block <| rge <| ev (Ev.loadBoxCell na_51 rfl (K6.x s1) rfl) <| ev (Ev.field (q := ⟨gm0, 0, none⟩) fa_72_0 rfl rfl) <| ev (Ev.loadBoxCell na_3 rfl (K6.x s0) rfl) ?_
  refine bs1 (τ := tInt) (x := x.Node) (vs := [(0, .int .i64 x.Node)]) (cs := [.int .i64 x.Node]) rfl (by intro _; apply bs_51_1_I) rfl K6 (fun _ _ => rfl) fun g3 w7 K7 => ?_
  refine ap (xs := (pre.map ABeat.Node)) (ys := ([x.Node] : List Int)) K7 s3 rfl rfl (K7.o s0) Tryz.underlying51 ei_3 (by omega) (by simp) rfl fun Ap1 cp1 w8 K8 => ?_
  refine stc rfl rfl rfl sz_51 K8 s3 rfl fun w9 K9 => ?_
  refine dne <| Pst.blk_norm ?_
  have hq1 : (((pre.map ABeat.Node) ++ ([x.Node] : List Int)) : List Int) = ((pre ++ [x]).map ABeat.Node) := by simp
  rw [hq1] at K9
  exact Pst.rn ⟨Ap1, cp1, rfl⟩ ((K9.rm s3).rm s2)
 ·
  rintro D _ w10 ⟨A, c, rfl⟩ K10
  refine Pst.blk_norm (Pst.norm ?_)
  refine rg <| ev (Ev.loadBoxCell na_51 rfl (K10.x s1) rfl) <| as_ rfl <| dn ?_
  refine WP.ret (Pst.retM K10 rfl fun w11 K11 => ⟨_, ⟨_, _, rfl, rfl, rfl⟩, ?_⟩)
  exact ⟨A, c, rfl, (K11.rm s0)⟩
 ·
  rintro D c pre F w h _
  exact h.elim

end Go.Proofs.YtjcklpooaaaglaaGreat
set_option maxRecDepth 4000
set_option linter.all false
namespace Go.Proofs.YtjcklpooaaaglaaGreat
open Go.RowKit
structure ANeed where
  Chunk : Int
  Have : Int
  Live : Int
  deriving DecidableEq
def ANeed.enc (x : ANeed) : List Value := [.int .i64 x.Chunk, .int .i64 x.Have, .int .i64 x.Live]
theorem ANeed.enc_one (x : ANeed) : ∀ u ∈ x.enc, u.oneCell' = true := by
  intro u hu
  simp only [ANeed.enc, List.mem_cons, List.not_mem_nil, or_false] at hu
  rcases hu with rfl | rfl | rfl <;> rfl
def ANeed.wf (x : ANeed) : Prop := InI64 x.Chunk ∧ InI64 x.Have ∧ InI64 x.Live
def tNeed : Ty ANeed := Ty.flat 3 ANeed.enc (by decide) (fun _ => rfl) ANeed.enc_one
instance : Flat tNeed := ⟨fun h => h⟩
def nLess (a b : ANeed) : Bool := decide (orL [cmpI a.Live b.Live, cmpI a.Have b.Have, cmpI a.Chunk b.Chunk] < 0)
def upG : Nat → List ANeed → Nat → List ANeed
  | 0, l, _ => l
  | f + 1, l, i => match l[i]?, l[(i - 1) / 2]? with
    | some x, some y => if (decide (0 < i) && nLess x y) = true then upG f ((l.set i y).set ((i - 1) / 2) x) ((i - 1) / 2) else l
    | _, _ => l
def upL (l : List ANeed) : List ANeed := upG l.length l (l.length - 1)
theorem upG_len : ∀ (f : Nat) (l : List ANeed) (i : Nat), (upG f l i).length = l.length
  | 0, _, _ => rfl
  | f + 1, l, i => by
    unfold upG
    split
    · split
      · rw [upG_len f, List.length_set, List.length_set]
      · rfl
    · rfl
theorem upG_fuel : ∀ (f f' : Nat) (l : List ANeed) (i : Nat), i < f → i < f' → upG f l i = upG f' l i
  | 0, _, _, _, h, _ => absurd h (Nat.not_lt_zero _)
  | _ + 1, 0, _, _, _, h => absurd h (Nat.not_lt_zero _)
  | f + 1, f' + 1, l, i, h1, h2 => by
    unfold upG
    split
    · split
      · rename_i hc
        simp only [Bool.and_eq_true, decide_eq_true_eq] at hc
        exact upG_fuel f f' _ _ (by omega) (by omega)
      · rfl
    · rfl
theorem upG_go {l : List ANeed} {i : Nat} {x y : ANeed} (hx : l[i]? = some x) (hy : l[(i - 1) / 2]? = some y) (hi : 0 < i) (h : nLess x y = true) : upG (i + 1) l i = upG ((i - 1) / 2 + 1) ((l.set i y).set ((i - 1) / 2) x) ((i - 1) / 2) := by
  conv => lhs; unfold upG
  rw [hx, hy]
  show (if (decide (0 < i) && nLess x y) = true then _ else _) = _
  rw [if_pos (by simp [hi, h])]
  exact upG_fuel _ _ _ _ (by omega) (by omega)
theorem upG_stop {l : List ANeed} {i : Nat} (h : ∀ x y, l[i]? = some x → l[(i - 1) / 2]? = some y → (decide (0 < i) && nLess x y) = false) : upG (i + 1) l i = l := by
  unfold upG
  split
  · rename_i x y hx hy
    rw [if_neg (by rw [h x y hx hy]; decide)]
  · rfl

theorem fa_90_2 : FieldAt Tryz.prog 90 2 2 := fun _ _ => by kernel_rfl
theorem fa_90_1 : FieldAt Tryz.prog 90 1 1 := fun _ _ => by kernel_rfl
theorem fa_90_0 : FieldAt Tryz.prog 90 0 0 := fun _ _ => by kernel_rfl
theorem bs_51_3_III (a0 : Int) (a1 : Int) (a2 : Int) : ∀ w, (Instr.buildSlice 51 3 (List.toArray [(0, .int .i64 a0), (1, .int .i64 a1), (2, .int .i64 a2)])).run Tryz.prog w = .ok (.slice (some ⟨w.heap.size, 0, none⟩) 3 3) (w.alloc (.cells (List.toArray [.int .i64 a0, .int .i64 a1, .int .i64 a2]) 3)) := fun _ => by kernel_rfl
theorem sz_90 : Size Tryz.prog 90 3 := fun _ => by kernel_rfl
theorem ag_90 : Agg Tryz.prog 90 3 := ⟨fun _ => by kernel_rfl, sz_90⟩
theorem cl_167 : Callable Tryz.prog 167 := fun _ _ => by kernel_rfl
theorem fa_160_0 : FieldAt Tryz.prog 160 0 0 := fun _ _ => by kernel_rfl
theorem na_82 : NotAgg Tryz.prog 82 := fun _ => by kernel_rfl
theorem fa_160_1 : FieldAt Tryz.prog 160 1 1 := fun _ _ => by kernel_rfl
theorem na_158 : NotAgg Tryz.prog 158 := fun _ => by kernel_rfl
theorem cl_126 : Callable Tryz.prog 126 := fun _ _ => by kernel_rfl
theorem qorder_ok {S0 : Nat → Prop} (w : World) (a : ANeed) (b : ANeed) :
    Rets Tryz.prog 167 #[.agg #[.int .i64 a.Chunk, .int .i64 a.Have, .int .i64 a.Live], .agg #[.int .i64 b.Chunk, .int .i64 b.Have, .int .i64 b.Live]] w fun v w' => v = .int .i64 (orL [cmpI a.Live b.Live, cmpI a.Have b.Have, cmpI a.Chunk b.Chunk]) ∧ Hp w S0 w' [] := by
 refine WP.enter Tryz.func167 rfl Tryz.ntmps167 rfl ?_
 have H0 := Hp.init w S0
 refine rg ?_
 refine bx (cs := [.int .i64 a.Chunk, .int .i64 a.Have, .int .i64 a.Live]) rfl rfl H0 fun g1 w1 K1 => ?_
 refine bx (cs := [.int .i64 b.Chunk, .int .i64 b.Have, .int .i64 b.Live]) rfl rfl K1 fun g2 w2 K2 => ?_
 refine as_ rfl <| dn ?_
 refine WP.held (fun wS => Hp w S0 wS [rBx g2 90 [.int .i64 b.Chunk, .int .i64 b.Have, .int .i64 b.Live], rBx g1 90 [.int .i64 a.Chunk, .int .i64 a.Have, .int .i64 a.Live]]) (fun lJ wJ => lJ = [(4, .int .i64 (orL ([cmpI a.Live b.Live, cmpI a.Have b.Have, cmpI a.Chunk b.Chunk] : List Int)))] ∧ Hp w S0 wJ [rBx g2 90 [.int .i64 b.Chunk, .int .i64 b.Have, .int .i64 b.Live], rBx g1 90 [.int .i64 a.Chunk, .int .i64 a.Have, .int .i64 a.Live]]) (by kernel_rfl) ?_ ?_
 ·
  have H1 := K2.grow (Ext.refl w2).drew
  refine WH.ns (by kernel_rfl) fun hns => ?_
  refine WH.tn (fuel := 17) 0 (LM 18 1) hns rfl (by kernel_rfl) (fun _ hK => (Ev.field (q := ⟨g1, 2, none⟩) fa_90_2 rfl rfl)) rfl H1 <| WH.tn (fuel := 16) 1 (LM 18 3) hns rfl (by kernel_rfl) (fun _ hK => (Ev.loadBoxCell na_3 rfl (hK.x s1) rfl)) rfl H1 ?_
  refine WH.tn (fuel := 15) 2 (LM 18 7) hns rfl (by kernel_rfl) (fun _ hK => (Ev.field (q := ⟨g2, 2, none⟩) fa_90_2 rfl rfl)) rfl H1 <| WH.tn (fuel := 14) 3 (LM 18 15) hns rfl (by kernel_rfl) (fun _ hK => (Ev.loadBoxCell na_3 rfl (hK.x s0) rfl)) rfl H1 ?_
  refine WH.tn (fuel := 13) 5 (LM 18 47) hns rfl (by kernel_rfl) (fun _ hK => (Ev.field (q := ⟨g1, 1, none⟩) fa_90_1 rfl rfl)) rfl H1 <| WH.tn (fuel := 12) 6 (LM 18 111) hns rfl (by kernel_rfl) (fun _ hK => (Ev.loadBoxCell na_3 rfl (hK.x s1) rfl)) rfl H1 ?_
  refine WH.tn (fuel := 11) 7 (LM 18 239) hns rfl (by kernel_rfl) (fun _ hK => (Ev.field (q := ⟨g2, 1, none⟩) fa_90_1 rfl rfl)) rfl H1 <| WH.tn (fuel := 10) 8 (LM 18 495) hns rfl (by kernel_rfl) (fun _ hK => (Ev.loadBoxCell na_3 rfl (hK.x s0) rfl)) rfl H1 ?_
  refine WH.tn (fuel := 9) 10 (LM 18 1519) hns rfl (by kernel_rfl) (fun _ hK => (Ev.field (q := ⟨g1, 0, none⟩) fa_90_0 rfl rfl)) rfl H1 <| WH.tn (fuel := 8) 11 (LM 18 3567) hns rfl (by kernel_rfl) (fun _ hK => (Ev.loadBoxCell na_3 rfl (hK.x s1) rfl)) rfl H1 ?_
  refine WH.tn (fuel := 7) 12 (LM 18 7663) hns rfl (by kernel_rfl) (fun _ hK => (Ev.field (q := ⟨g2, 0, none⟩) fa_90_0 rfl rfl)) rfl H1 <| WH.tn (fuel := 6) 13 (LM 18 15855) hns rfl (by kernel_rfl) (fun _ hK => (Ev.loadBoxCell na_3 rfl (hK.x s0) rfl)) rfl H1 ?_
  refine WH.one (fuel := 5) 4 (by kernel_rfl) rfl <| WL.call rfl rfl rfl cl_113 (Compare_ok (S0 := Any) _ a.Live b.Live) rfl ?_
  rintro _ w3 ⟨rfl, h3⟩
  have K3 := H1.c0 h3
  refine WH.next K3 <| WH.one (fuel := 4) 9 (by kernel_rfl) rfl <| WL.call rfl rfl rfl cl_113 (Compare_ok (S0 := Any) _ a.Have b.Have) rfl ?_
  rintro _ w4 ⟨rfl, h4⟩
  have K4 := K3.c0 h4
  refine WH.next K4 <| WH.one (fuel := 3) 14 (by kernel_rfl) rfl <| WL.call rfl rfl rfl cl_113 (Compare_ok (S0 := Any) _ a.Chunk b.Chunk) rfl ?_
  rintro _ w5 ⟨rfl, h5⟩
  have K5 := K4.c0 h5
  refine WH.next K5 <| WH.one (fuel := 2) 15 (by kernel_rfl) rfl ?_
  refine bsn (τ := tInt) (xs := ([cmpI a.Live b.Live, cmpI a.Have b.Have, cmpI a.Chunk b.Chunk] : List Int)) (vs := [(0, .int .i64 (cmpI a.Live b.Live)), (1, .int .i64 (cmpI a.Have b.Have)), (2, .int .i64 (cmpI a.Chunk b.Chunk))]) (css := [[.int .i64 (cmpI a.Live b.Live)], [.int .i64 (cmpI a.Have b.Have)], [.int .i64 (cmpI a.Chunk b.Chunk)]]) rfl (by intro _; apply bs_51_3_III) rfl rfl K5 (fun _ e => ⟨rfl, rfl, rfl, trivial⟩) fun g3 w6 K6 => ?_
  have k1 := (K6.rm s0)
  refine WH.next k1 <| WH.one (fuel := 1) 16 (by kernel_rfl) rfl <| WL.call rfl rfl rfl cl_143 (Or_ok _ (K6.o s0)) rfl ?_
  rintro _ w7 ⟨rfl, h7⟩
  have K7 := K6.c0 h7
  have k2 := (K7.rm s0)
  refine WH.next k2 <| WH.tn (fuel := 0) 17 (LM 18 262143) hns rfl (by kernel_rfl) (fun _ hK => (Ev.assign rfl)) rfl k2 ?_
  exact WH.dn ⟨rfl, (K7.rm s0)⟩ rfl (by kernel_rfl)
 rintro _ w8 ⟨rfl, K8⟩
 refine WP.ret (Pst.body_ret rfl rfl rfl ?_)
 have hq1 : (orL ([cmpI a.Live b.Live, cmpI a.Have b.Have, cmpI a.Chunk b.Chunk] : List Int) : Int) = (orL [cmpI a.Live b.Live, cmpI a.Have b.Have, cmpI a.Chunk b.Chunk]) := by rfl
 exact ⟨by rw [hq1] <;> rfl, K8.z⟩

theorem qurgent_ok {S0 : Nat → Prop} (w : World) (a : ANeed) (b : ANeed) :
    Rets Tryz.prog 126 #[.agg #[.int .i64 a.Chunk, .int .i64 a.Have, .int .i64 a.Live], .agg #[.int .i64 b.Chunk, .int .i64 b.Have, .int .i64 b.Live]] w fun v w' => v = .bool (nLess a b) ∧ Hp w S0 w' [] := by
 refine WP.enter Tryz.func126 rfl Tryz.ntmps126 rfl ?_
 have H0 := Hp.init w S0
 refine rg ?_
 refine bx (cs := [.int .i64 a.Chunk, .int .i64 a.Have, .int .i64 a.Live]) rfl rfl H0 fun g1 w1 K1 => ?_
 refine bx (cs := [.int .i64 b.Chunk, .int .i64 b.Have, .int .i64 b.Live]) rfl rfl K1 fun g2 w2 K2 => ?_
 refine as_ rfl <| dn <| rg <| ev (Ev.loadBox ag_90 rfl rfl (K2.x s1)) <| ev (Ev.loadBox ag_90 rfl rfl (K2.x s0)) <| WL.call rfl rfl rfl cl_167 (qorder_ok (S0 := Any) _ a b) rfl ?_
 rintro _ w3 ⟨rfl, h3⟩
 have K3 := K2.c0 h3
 refine ev (Ev.lss rfl rfl) <| as_ rfl <| dn ?_
 refine WP.ret (Pst.body_ret rfl rfl rfl ?_)
 have hq1 : (decide (orL [cmpI a.Live b.Live, cmpI a.Have b.Have, cmpI a.Chunk b.Chunk] < 0) : Bool) = (nLess a b) := by rfl
 exact ⟨by rw [hq1] <;> rfl, K3.z⟩

theorem hup_ok {b w : World} {S : Nat → Prop} {F : List Res} {g : Nat} {A : Option Addr} {c : Nat} {l : List ANeed} (H0 : Hp b S w (rBx g 162 [.slice A l.length c, .func (.func 126) #[] #[]] :: rOwn tNeed 90 A c l :: F)) (hn : l.length ≤ 1000000) (h1 : 1 ≤ l.length) :
    Rets Tryz.prog 127 #[.pointer (some ⟨g, 0, none⟩)] w fun v w' => v = .tuple #[] ∧ Hp b S w' (rBx g 162 [.slice A (upL l).length c, .func (.func 126) #[] #[]] :: rOwn tNeed 90 A c (upL l) :: F) := by
 refine WP.enter Tryz.func127 rfl Tryz.ntmps127 rfl ?_
 refine WP.jumps (lb := 0) (fun mJ lJ wJ => ∃ (i : Nat) (ys : List ANeed), lJ = [(0, .pointer (some ⟨g, 0, none⟩)), (2, .int .i64 ((i : Nat) : Int))] ∧ mJ = i + 1 ∧ (ys.length = l.length) ∧ (i < l.length) ∧ (upG (i + 1) ys i = upG l.length l (l.length - 1)) ∧ Hp b S wJ (rOwn tNeed 90 A c ys :: rBx g 162 [.slice A ys.length c, .func (.func 126) #[] #[]] :: F)) rfl ?_ ?_
 ·
  rintro _ _ w1 ⟨i, ys, rfl, rfl, hyl, hil, hup, K1⟩
  have hhalf := half i
  refine rg <| mv rfl <| ev (Ev.sub rfl rfl (I64.mk (by omega) (by omega))) <| ev (Ev.quo rfl rfl (by decide) (I64.mk (by omega) (by omega))) <| as_ rfl <| dn <| WP.re (t := 3) (u := .int .i64 ((((i : Nat) : Int) - 1).tdiv 2)) rfl (congrArg (Value.int .i64) (half i)) ?_
  obtain ⟨x1, hx1⟩ := get_some (xs := ys) (i := i) (by omega)
  obtain ⟨x2, hx2⟩ := get_some (xs := ys) (i := (i - 1) / 2) (by omega)
  refine WP.draw (by kernel_rfl) (by kernel_rfl) <| WQ.ev (Ev.move rfl) rfl <| WQ.ev (Ev.gtr rfl rfl) rfl <| WQ.ev (Ev.move rfl) rfl ?_
  refine WQ.cutb 20 35 ((decide (0 < ((i : Nat) : Int))) && (nLess x1 x2)) ?_ ?_
  ·
   cases hb15 : decide (0 < ((i : Nat) : Int)) with
   | true =>
    have hb15p := of_decide_eq_true hb15
    refine WQ.evg rfl (Ev.move rfl) rfl <| WQ.evg rfl (Ev.nilCheck rfl) rfl <| WQ.evg rfl (Ev.field (q := ⟨g, 1, none⟩) fa_160_1 rfl rfl) rfl <| WQ.evg rfl (Ev.loadBoxCell na_158 rfl (K1.x s1) rfl) rfl ?_
    refine WQ.evg rfl (Ev.move rfl) rfl <| WQ.evg rfl (Ev.nilCheck rfl) rfl <| WQ.evg rfl (Ev.field (q := ⟨g, 0, none⟩) fa_160_0 rfl rfl) rfl <| WQ.evg rfl (Ev.loadBoxCell na_82 rfl (K1.x s1) rfl) rfl ?_
    refine WQ.evg rfl (Ev.move rfl) rfl <| WQ.evg rfl (Ev.index (i := i) Tryz.underlying82 sz_90 rfl rfl rfl (lt_of_get hx1) ((K1.o s0).some_ hx1)) rfl <| WQ.evg rfl (Ev.loadRow ag_90 rfl rfl ((K1.o s0).flat_row hx1)) rfl ?_
    refine WQ.evg rfl (Ev.move rfl) rfl <| WQ.evg rfl (Ev.nilCheck rfl) rfl <| WQ.evg rfl (Ev.field (q := ⟨g, 0, none⟩) fa_160_0 rfl rfl) rfl <| WQ.evg rfl (Ev.loadBoxCell na_82 rfl (K1.x s1) rfl) rfl ?_
    refine WQ.evg rfl (Ev.move rfl) rfl <| WQ.evg rfl (Ev.index (i := (i - 1) / 2) Tryz.underlying82 sz_90 rfl rfl rfl (lt_of_get hx2) ((K1.o s0).some_ hx2)) rfl <| WQ.evg rfl (Ev.loadRow ag_90 rfl rfl ((K1.o s0).flat_row hx2)) rfl ?_
    refine WQ.callg rfl (v := .bool (nLess x1 x2)) rfl rfl rfl cl_126 (fun wq eq => (qurgent_ok (S0 := Any) wq x1 x2).mono (by rintro _ _ ⟨rfl, hq2⟩; exact ⟨rfl, hq2.ext⟩)) rfl ?_
    refine WQ.ev (Ev.pick_t rfl rfl) rfl ?_
    exact WQ.cend rfl
   | false =>
    refine WQ.pass rfl rfl rfl <| WQ.pass rfl rfl rfl <| WQ.pass rfl rfl rfl <| WQ.pass rfl rfl rfl <| WQ.pass rfl rfl rfl <| WQ.pass rfl rfl rfl <| WQ.pass rfl rfl rfl ?_
    refine WQ.pass rfl rfl rfl <| WQ.pass rfl rfl rfl <| WQ.pass rfl rfl rfl <| WQ.pass rfl rfl rfl <| WQ.pass rfl rfl rfl <| WQ.pass rfl rfl rfl <| WQ.pass rfl rfl rfl ?_
    refine WQ.pass rfl rfl rfl <| WQ.pass rfl rfl rfl <| WQ.pass rfl rfl rfl <| WQ.pass rfl rfl rfl <| WQ.pass rfl rfl rfl <| WQ.ev (Ev.pick_f rfl rfl) rfl ?_
    exact WQ.cend rfl
  refine WQ.done fun w2 e2 => ?_
  have K2 := K1.grow e2
  refine WP.cond_end rfl (fun hc35 => ?_) (fun hc35 => ?_)
  ·
   have hsA := (K2.o s0).some_ hx1
   have hp := (Bool.and_eq_true _ _).mp hc35
   have hp1 := of_decide_eq_true hp.1
   have hgo := upG_go hx1 hx2 (by omega) hp.2
   refine WP.held (fun wS => Hp b S wS (rBx g 162 [.slice A ys.length c, .func (.func 126) #[] #[]] :: F)) (fun lJ wJ => lJ = [(0, .pointer (some ⟨g, 0, none⟩)), (2, .int .i64 ((i : Nat) : Int)), (3, .int .i64 (((i - 1) / 2 : Nat) : Int))] ∧ Hp b S wJ (rOwn tNeed 90 A c ((ys.set i x2).set ((i - 1) / 2) x1) :: rBx g 162 [.slice A ys.length c, .func (.func 126) #[] #[]] :: F)) (by kernel_rfl) ?_ ?_
   ·
    have H1 := K2.grow (Ext.refl w2).drew
    refine WH.ns (by kernel_rfl) fun hns => ?_
    have k1 := (H1.rm s0)
    refine WH.tn (fuel := 27) 0 (LM 28 1) hns rfl (by kernel_rfl) (fun _ hK => (Ev.move rfl)) rfl k1 <| WH.tn (fuel := 26) 1 (LM 28 3) hns rfl (by kernel_rfl) (fun _ hK => (Ev.nilCheck rfl)) rfl k1 ?_
    refine WH.tn (fuel := 25) 2 (LM 28 7) hns rfl (by kernel_rfl) (fun _ hK => (Ev.field (q := ⟨g, 0, none⟩) fa_160_0 rfl rfl)) rfl k1 <| WH.tn (fuel := 24) 3 (LM 28 15) hns rfl (by kernel_rfl) (fun _ hK => (Ev.loadBoxCell na_82 rfl (hK.x s0) rfl)) rfl k1 ?_
    refine WH.tn (fuel := 23) 4 (LM 28 31) hns rfl (by kernel_rfl) (fun _ hK => (Ev.move rfl)) rfl k1 <| WH.tn (fuel := 22) 5 (LM 28 63) hns rfl (by kernel_rfl) (fun _ hK => (Ev.move rfl)) rfl k1 ?_
    refine WH.tn (fuel := 21) 6 (LM 28 127) hns rfl (by kernel_rfl) (fun _ hK => (Ev.nilCheck rfl)) rfl k1 <| WH.tn (fuel := 20) 7 (LM 28 255) hns rfl (by kernel_rfl) (fun _ hK => (Ev.field (q := ⟨g, 0, none⟩) fa_160_0 rfl rfl)) rfl k1 ?_
    refine WH.tn (fuel := 19) 8 (LM 28 511) hns rfl (by kernel_rfl) (fun _ hK => (Ev.loadBoxCell na_82 rfl (hK.x s0) rfl)) rfl k1 <| WH.tn (fuel := 18) 9 (LM 28 1023) hns rfl (by kernel_rfl) (fun _ hK => (Ev.move rfl)) rfl k1 ?_
    refine WH.tn (fuel := 17) 10 (LM 28 2047) hns rfl (by kernel_rfl) (fun _ hK => (Ev.move rfl)) rfl k1 <| WH.tn (fuel := 16) 11 (LM 28 4095) hns rfl (by kernel_rfl) (fun _ hK => (Ev.nilCheck rfl)) rfl k1 ?_
    refine WH.tn (fuel := 15) 12 (LM 28 8191) hns rfl (by kernel_rfl) (fun _ hK => (Ev.field (q := ⟨g, 0, none⟩) fa_160_0 rfl rfl)) rfl k1 <| WH.tn (fuel := 14) 13 (LM 28 16383) hns rfl (by kernel_rfl) (fun _ hK => (Ev.loadBoxCell na_82 rfl (hK.x s0) rfl)) rfl k1 ?_
    refine WH.tn (fuel := 13) 14 (LM 28 32767) hns rfl (by kernel_rfl) (fun _ hK => (Ev.move rfl)) rfl k1 <| WH.tn (fuel := 12) 15 (LM 28 65535) hns rfl (by kernel_rfl) (fun _ hK => (Ev.index (i := (i - 1) / 2) Tryz.underlying82 sz_90 rfl rfl rfl (lt_of_get hx2) hsA)) rfl k1 ?_
    refine WH.tn (fuel := 11) 17 (LM 28 196607) hns rfl (by kernel_rfl) (fun _ hK => (Ev.move rfl)) rfl k1 <| WH.tn (fuel := 10) 18 (LM 28 458751) hns rfl (by kernel_rfl) (fun _ hK => (Ev.nilCheck rfl)) rfl k1 ?_
    refine WH.tn (fuel := 9) 19 (LM 28 983039) hns rfl (by kernel_rfl) (fun _ hK => (Ev.field (q := ⟨g, 0, none⟩) fa_160_0 rfl rfl)) rfl k1 <| WH.tn (fuel := 8) 20 (LM 28 2031615) hns rfl (by kernel_rfl) (fun _ hK => (Ev.loadBoxCell na_82 rfl (hK.x s0) rfl)) rfl k1 ?_
    refine WH.tn (fuel := 7) 21 (LM 28 4128767) hns rfl (by kernel_rfl) (fun _ hK => (Ev.move rfl)) rfl k1 <| WH.tn (fuel := 6) 22 (LM 28 8323071) hns rfl (by kernel_rfl) (fun _ hK => (Ev.index (i := i) Tryz.underlying82 sz_90 rfl rfl rfl (lt_of_get hx1) hsA)) rfl k1 ?_
    refine WH.join (fun lJ wJ => lJ = [(0, .pointer (some ⟨g, 0, none⟩)), (2, .int .i64 ((i : Nat) : Int)), (3, .int .i64 (((i - 1) / 2 : Nat) : Int)), (39, .slice A ys.length c), (40, .int .i64 ((i : Nat) : Int)), (44, .slice A ys.length c), (45, .int .i64 (((i - 1) / 2 : Nat) : Int)), (52, .agg #[.int .i64 x2.Chunk, .int .i64 x2.Have, .int .i64 x2.Live]), (59, .agg #[.int .i64 x1.Chunk, .int .i64 x1.Have, .int .i64 x1.Live])] ∧ Hp b S wJ (rOwn tNeed 90 A c ys :: rBx g 162 [.slice A ys.length c, .func (.func 126) #[] #[]] :: F)) 4 (LM 28 16777215) ?_ fun hS1 => ?_
    ·
     rintro _ w5 ⟨rfl, K5⟩
     have k4 := (K5.rm s0)
     refine WH.tn (fuel := 3) 24 (LM 28 33554431) hns rfl (by kernel_rfl) (fun _ hK => (Ev.index (i := i) Tryz.underlying82 sz_90 rfl rfl rfl (lt_of_get hx1) hsA)) rfl k4 ?_
     refine WH.one (fuel := 2) 25 (by kernel_rfl) rfl ?_
     refine se (i := i) (f := 0) (x := x1) (x' := x2) (ds := [.int .i64 x2.Chunk, .int .i64 x2.Have, .int .i64 x2.Live]) K5 s0 rfl rfl rfl hx1 rfl sz_90 (Nat.le_of_ble_eq_true rfl) rfl (fun _ _ _ h => by have h' : _ = _ := h; subst h'; rfl) fun w6 K6 => ?_
     have hl3 : (ys.set i x2).length = ys.length := List.length_set ..
     refine WL.re (t := 39) (u := .slice A ys.length c) (v := .slice A ((ys.set i x2).length) c) rfl (by rw [hl3]) <| WL.re (t := 44) (u := .slice A ys.length c) (v := .slice A ((ys.set i x2).length) c) rfl (by rw [hl3]) ?_
     have hx6 : (ys.set i x2)[i]? = some x2 := List.getElem?_set_self (lt_of_get hx1)
     have k5 := (K6.rm s0)
     refine WH.next k5 ?_
     obtain ⟨x4, hx7⟩ := get_some (xs := (ys.set i x2)) (i := (i - 1) / 2) (by omega)
     refine WH.tn (fuel := 1) 26 (LM 28 134217727) hns rfl (by kernel_rfl) (fun _ hK => (Ev.index (i := (i - 1) / 2) Tryz.underlying82 sz_90 rfl rfl rfl (lt_of_get hx7) hsA)) rfl k5 ?_
     refine WH.one (fuel := 0) 27 (by kernel_rfl) rfl ?_
     refine se (i := (i - 1) / 2) (f := 0) (x := x4) (x' := x1) (ds := [.int .i64 x1.Chunk, .int .i64 x1.Have, .int .i64 x1.Live]) K6 s0 rfl rfl rfl hx7 rfl sz_90 (Nat.le_of_ble_eq_true rfl) rfl (fun _ _ _ h => by have h' : _ = _ := h; subst h'; rfl) fun w7 K7 => ?_
     have hl4 : ((ys.set i x2).set ((i - 1) / 2) x1).length = (ys.set i x2).length := List.length_set ..
     refine WL.re (t := 39) (u := .slice A ((ys.set i x2).length) c) (v := .slice A (((ys.set i x2).set ((i - 1) / 2) x1).length) c) rfl (by rw [hl4]) <| WL.re (t := 44) (u := .slice A ((ys.set i x2).length) c) (v := .slice A (((ys.set i x2).set ((i - 1) / 2) x1).length) c) rfl (by rw [hl4]) ?_
     have hx8 : ((ys.set i x2).set ((i - 1) / 2) x1)[(i - 1) / 2]? = some x1 := List.getElem?_set_self (lt_of_get hx7)
     have k6 := (K7.rm s0)
     refine WH.next k6 ?_
     exact WH.dn ⟨rfl, K7⟩ rfl (by kernel_rfl)
    refine WH.two (fuel := 5) 16 23 (by kernel_rfl) rfl rfl ?_ ?_
    ·
     refine ev (Ev.loadRow ag_90 rfl rfl ((H1.o s0).flat_row hx2)) <| WH.next k1 <| WH.one (fuel := 4) 23 (by kernel_rfl) rfl <| ev (Ev.loadRow ag_90 rfl rfl ((H1.o s0).flat_row hx1)) ?_
     exact WH.kj hS1 (by kernel_rfl) k1 ⟨rfl, H1⟩ rfl
    ·
     refine ev (Ev.loadRow ag_90 rfl rfl ((H1.o s0).flat_row hx1)) <| WH.next k1 <| WH.one (fuel := 4) 16 (by kernel_rfl) rfl <| ev (Ev.loadRow ag_90 rfl rfl ((H1.o s0).flat_row hx2)) ?_
     exact WH.kj hS1 (by kernel_rfl) k1 ⟨rfl, H1⟩ rfl
   rintro _ w8 ⟨rfl, K8⟩
   refine rg <| mv rfl <| as_ rfl <| dn <| WP.goto ?_
   have hq2 : ((((i - 1) / 2 : Nat) : Int) : Int) = ((((i - 1) / 2) : Nat) : Int) := by simp
   refine Pst.re (t := 2) rfl (congrArg (Value.int .i64) hq2) ?_
   have hq3 : (.slice A ys.length c : Value) = .slice A (((ys.set i x2).set ((i - 1) / 2) x1).length) c := by rw [List.length_set, List.length_set]
   try rw [hq3] at K8
   exact Pst.jag ⟨((i - 1) / 2), ((ys.set i x2).set ((i - 1) / 2) x1), rfl, rfl, by rw [List.length_set, List.length_set]; exact hyl, by omega, by rw [← hgo]; exact hup, K8⟩ rfl (by omega)
  refine WP.skip (Pst.jump_norm (Pst.body_norm (Pst.body_ret rfl rfl rfl ?_)))
  have hst : upG (i + 1) ys i = ys := upG_stop (fun x y e1 e2 => by rw [hx1] at e1; cases e1; rw [hx2] at e2; cases e2; rw [show decide (0 < i) = decide ((0 : Int) < (i : Int)) from decide_eq_decide.2 (by omega)]; exact hc35)
  have hfi : ys = upL l := by rw [← hst, hup]; rfl
  exact ⟨rfl, by rw [← hfi]; exact ((K2.sel s0).sel s1)⟩
 ·
  intro hp0
  refine rg <| mv rfl <| ev (Ev.nilCheck rfl) <| ev (Ev.field (q := ⟨g, 0, none⟩) fa_160_0 rfl rfl) <| ev (Ev.loadBoxCell na_82 rfl (H0.x s0) rfl) <| ev (Ev.len Tryz.underlying82 rfl) ?_
  refine ev (Ev.subN (a := l.length) (b := 1) rfl rfl rfl (by omega) (by omega)) <| as_ rfl <| dn <| rg <| as_ rfl <| dn ?_
  have hq1 : (((l.length - 1 : Nat) : Int) : Int) = (((l.length - 1) : Nat) : Int) := by simp
  refine WP.re (t := 2) rfl (congrArg (Value.int .i64) hq1) ?_
  exact WP.kp hp0 ⟨(l.length - 1), l, rfl, rfl, by rfl, by omega, by rw [Nat.sub_add_cancel h1], ((H0.sel s0).sel s1)⟩ rfl

end Go.Proofs.YtjcklpooaaaglaaGreat
set_option maxRecDepth 4000
set_option linter.all false
namespace Go.Proofs.YtjcklpooaaaglaaGreat
open Go.RowKit

def lsB' (l : List ANeed) (a m : Nat) : Bool := match l[a]?, l[m]? with | some x, some y => nLess x y | _, _ => false
def leastF (l : List ANeed) (i : Nat) : Nat → Nat
  | 0 => i
  | k + 1 => if lsB' l (2 * i + 1 + k) (leastF l i k) = true then 2 * i + 1 + k else leastF l i k
abbrev lsB (l : List ANeed) (i k : Nat) : Bool := lsB' l (2 * i + 1 + k) (leastF l i k)
theorem lsB_at {l : List ANeed} {a m : Nat} {x y : ANeed} (hx : l[a]? = some x) (hy : l[m]? = some y) : nLess x y = lsB' l a m := by unfold lsB'; rw [hx, hy]
theorem lsB_no {l : List ANeed} {a m : Nat} (h : ¬ a < l.length) : false = lsB' l a m := by unfold lsB'; rw [List.getElem?_eq_none (by omega)]
theorem leastF_lt (l : List ANeed) (i : Nat) : ∀ k, leastF l i k = i ∨ (2 * i + 1 ≤ leastF l i k ∧ leastF l i k < l.length ∧ i < l.length)
  | 0 => .inl rfl
  | k + 1 => by
    unfold leastF
    split
    · rename_i h
      right
      have h1 : 2 * i + 1 + k < l.length := by
        rcases Nat.lt_or_ge (2 * i + 1 + k) l.length with h2 | h2
        · exact h2
        · rw [← lsB_no (by omega)] at h; cases h
      omega
    · exact leastF_lt l i k
def downG : Nat → List ANeed → Nat → List ANeed
  | 0, l, _ => l
  | f + 1, l, i => if leastF l i 2 = i then l else match l[i]?, l[leastF l i 2]? with
    | some x, some y => downG f ((l.set i y).set (leastF l i 2) x) (leastF l i 2)
    | _, _ => l
def downL (l : List ANeed) : List ANeed := downG (l.length + 1) l 0
theorem downG_len : ∀ (f : Nat) (l : List ANeed) (i : Nat), (downG f l i).length = l.length
  | 0, _, _ => rfl
  | f + 1, l, i => by
    unfold downG
    split
    · rfl
    · split
      · rw [downG_len f, List.length_set, List.length_set]
      · rfl
theorem downG_fuel : ∀ (f f' : Nat) (l : List ANeed) (i : Nat), l.length - i < f → l.length - i < f' → downG f l i = downG f' l i
  | 0, _, _, _, h, _ => absurd h (Nat.not_lt_zero _)
  | _ + 1, 0, _, _, _, h => absurd h (Nat.not_lt_zero _)
  | f + 1, f' + 1, l, i, h1, h2 => by
    unfold downG
    split
    · rfl
    · rename_i hne
      have h3 := leastF_lt l i 2
      split
      · exact downG_fuel f f' _ _ (by rw [List.length_set, List.length_set]; omega) (by rw [List.length_set, List.length_set]; omega)
      · rfl
theorem downG_go {l : List ANeed} {i m : Nat} {x y : ANeed} (hm : leastF l i 2 = m) (hne : m ≠ i) (hx : l[i]? = some x) (hy : l[m]? = some y) : downG (l.length - i + 1) l i = downG (l.length - m + 1) ((l.set i y).set m x) m := by
  subst hm
  conv => lhs; unfold downG
  rw [if_neg hne, hx, hy]
  have h3 := leastF_lt l i 2
  exact downG_fuel _ _ _ _ (by rw [List.length_set, List.length_set]; omega) (by rw [List.length_set, List.length_set]; omega)
theorem downG_stop {l : List ANeed} {i : Nat} (h : leastF l i 2 = i) : downG (l.length - i + 1) l i = l := by unfold downG; rw [if_pos h]

theorem bl_195_0I_1I (a0 : Int) (a1 : Int) : Tryz.prog.built 195 [(0, .int .i64 a0), (1, .int .i64 a1)] = some #[.int .i64 a0, .int .i64 a1] := by kernel_rfl
theorem hdown_ok {b w : World} {S : Nat → Prop} {F : List Res} {g : Nat} {A : Option Addr} {c : Nat} {l : List ANeed} (H0 : Hp b S w (rBx g 162 [.slice A l.length c, .func (.func 126) #[] #[]] :: rOwn tNeed 90 A c l :: F)) (hn : l.length ≤ 1000000) :
    Rets Tryz.prog 128 #[.pointer (some ⟨g, 0, none⟩)] w fun v w' => v = .tuple #[] ∧ Hp b S w' (rBx g 162 [.slice A (downL l).length c, .func (.func 126) #[] #[]] :: rOwn tNeed 90 A c (downL l) :: F) := by
 refine WP.enter Tryz.func128 rfl Tryz.ntmps128 rfl ?_
 refine WP.jumps (lb := 0) (fun mJ lJ wJ => ∃ (i : Nat) (ys : List ANeed), lJ = [(0, .pointer (some ⟨g, 0, none⟩)), (2, .int .i64 ((i : Nat) : Int))] ∧ mJ = l.length - i + 1 ∧ (ys.length = l.length) ∧ (i ≤ l.length) ∧ (downG (ys.length - i + 1) ys i = downG (l.length + 1) l 0) ∧ Hp b S wJ (rOwn tNeed 90 A c ys :: rBx g 162 [.slice A ys.length c, .func (.func 126) #[] #[]] :: F)) rfl ?_ ?_
 ·
  rintro _ _ w1 ⟨i, ys, rfl, rfl, hyl, hil, hdn, K1⟩
  refine rg <| mv rfl <| as_ rfl <| dn <| WP.seq <| rg <| mv rfl <| ev (Ev.mul rfl rfl (I64.mk (by omega) (by omega))) <| ev (Ev.add rfl rfl (I64.mk (by omega) (by omega))) ?_
  refine mv rfl <| ev (Ev.mul rfl rfl (I64.mk (by omega) (by omega))) <| ev (Ev.add rfl rfl (I64.mk (by omega) (by omega))) <| ev (Ev.build (vs := [(0, .int .i64 ((2 * i + 1 : Nat) : Int)), (1, .int .i64 ((2 * i + 2 : Nat) : Int))]) (cs := [.int .i64 ((2 * i + 1 : Nat) : Int), .int .i64 ((2 * i + 2 : Nat) : Int)]) rfl (by apply bl_195_0I_1I)) ?_
  refine mv rfl <| dn <| WP.block ?_
  have hq2 : (((i : Nat) : Int) : Int) = ((leastF ys i 0 : Nat) : Int) := by rfl
  refine WP.re (t := 3) rfl (congrArg (Value.int .i64) hq2) ?_
  have hq3 : (0 : Int) = ((0 : Nat) : Int) := by simp
  refine WP.re (t := 14) rfl (congrArg (Value.int .i64) hq3) <| WP.lp (fun mJ lJ wJ => ∃ (k : Nat), lJ = [(0, .pointer (some ⟨g, 0, none⟩)), (2, .int .i64 ((i : Nat) : Int)), (3, .int .i64 ((leastF ys i k : Nat) : Int)), (13, .agg #[.int .i64 ((2 * i + 1 : Nat) : Int), .int .i64 ((2 * i + 2 : Nat) : Int)]), (14, .int .i64 ((k : Nat) : Int))] ∧ mJ = 2 - k ∧ k ≤ 2 ∧ Hp b S wJ (rOwn tNeed 90 A c ys :: rBx g 162 [.slice A ys.length c, .func (.func 126) #[] #[]] :: F)) ⟨0, rfl, rfl, Nat.zero_le _, K1⟩ rfl ?_
  rintro _ _ w2 ⟨k, rfl, rfl, hk, K2⟩
  refine rg <| ev (Ev.lss rfl rfl) <| dn ?_
  refine WP.cond rfl (fun hc15 => ?_) (fun hc15 => ?_)
  ·
   replace hc15 := of_decide_eq_true hc15
   refine WP.skip (Pst.norm ?_)
   refine WP.seq <| WP.block <| rg <| ev (Ev.idxA (v := .int .i64 ((2 * i + 1 + k : Nat) : Int)) (i := k) Tryz.underlying195 sz_3 na_3 (by omega) rfl rfl (by rcases (by omega : k = 0 ∨ k = 1) with rfl | rfl <;> rfl)) ?_
   refine as_ rfl <| dn ?_
   have hlt := leastF_lt ys i k
   refine WP.draw (by kernel_rfl) (by kernel_rfl) <| WQ.ev (Ev.move rfl) rfl <| WQ.ev (Ev.move rfl) rfl <| WQ.ev (Ev.nilCheck rfl) rfl <| WQ.ev (Ev.field (q := ⟨g, 0, none⟩) fa_160_0 rfl rfl) rfl ?_
   refine WQ.ev (Ev.loadBoxCell na_82 rfl (K2.x s1) rfl) rfl <| WQ.ev (Ev.len Tryz.underlying82 rfl) rfl <| WQ.ev (Ev.lss rfl rfl) rfl <| WQ.ev (Ev.move rfl) rfl ?_
   refine WQ.cutb 20 44 (lsB ys i k) ?_ ?_
   ·
    cases hb24 : decide (((2 * i + 1 + k : Nat) : Int) < ((ys.length : Nat) : Int)) with
    | true =>
     have hb24p := of_decide_eq_true hb24
     refine WQ.evg rfl (Ev.move rfl) rfl <| WQ.evg rfl (Ev.nilCheck rfl) rfl <| WQ.evg rfl (Ev.field (q := ⟨g, 1, none⟩) fa_160_1 rfl rfl) rfl <| WQ.evg rfl (Ev.loadBoxCell na_158 rfl (K2.x s1) rfl) rfl ?_
     refine WQ.evg rfl (Ev.move rfl) rfl <| WQ.evg rfl (Ev.nilCheck rfl) rfl <| WQ.evg rfl (Ev.field (q := ⟨g, 0, none⟩) fa_160_0 rfl rfl) rfl <| WQ.evg rfl (Ev.loadBoxCell na_82 rfl (K2.x s1) rfl) rfl ?_
     refine WQ.evg rfl (Ev.move rfl) rfl ?_
     obtain ⟨x1, hx1⟩ := get_some (xs := ys) (i := 2 * i + 1 + k) (by omega)
     refine WQ.evg rfl (Ev.index (i := 2 * i + 1 + k) Tryz.underlying82 sz_90 rfl rfl rfl (lt_of_get hx1) ((K2.o s0).some_ hx1)) rfl <| WQ.evg rfl (Ev.loadRow ag_90 rfl rfl ((K2.o s0).flat_row hx1)) rfl ?_
     refine WQ.evg rfl (Ev.move rfl) rfl <| WQ.evg rfl (Ev.nilCheck rfl) rfl <| WQ.evg rfl (Ev.field (q := ⟨g, 0, none⟩) fa_160_0 rfl rfl) rfl <| WQ.evg rfl (Ev.loadBoxCell na_82 rfl (K2.x s1) rfl) rfl ?_
     refine WQ.evg rfl (Ev.move rfl) rfl ?_
     obtain ⟨x2, hx2⟩ := get_some (xs := ys) (i := leastF ys i k) (by omega)
     refine WQ.evg rfl (Ev.index (i := leastF ys i k) Tryz.underlying82 sz_90 rfl rfl rfl (lt_of_get hx2) ((K2.o s0).some_ hx2)) rfl <| WQ.evg rfl (Ev.loadRow ag_90 rfl rfl ((K2.o s0).flat_row hx2)) rfl ?_
     refine WQ.callg rfl (v := .bool (nLess x1 x2)) rfl rfl rfl cl_126 (fun wq eq => (qurgent_ok (S0 := Any) wq x1 x2).mono (by rintro _ _ ⟨rfl, hq2⟩; exact ⟨rfl, hq2.ext⟩)) rfl ?_
     refine WQ.ev (Ev.pick_t rfl rfl) rfl <| WQ.re (t := 44) (u := .bool (nLess x1 x2)) (v := .bool (lsB ys i k)) rfl (congrArg Value.bool (by exact lsB_at hx1 hx2)) ?_
     exact WQ.cend rfl
    | false =>
     refine WQ.pass rfl rfl rfl <| WQ.pass rfl rfl rfl <| WQ.pass rfl rfl rfl <| WQ.pass rfl rfl rfl <| WQ.pass rfl rfl rfl <| WQ.pass rfl rfl rfl <| WQ.pass rfl rfl rfl ?_
     refine WQ.pass rfl rfl rfl <| WQ.pass rfl rfl rfl <| WQ.pass rfl rfl rfl <| WQ.pass rfl rfl rfl <| WQ.pass rfl rfl rfl <| WQ.pass rfl rfl rfl <| WQ.pass rfl rfl rfl ?_
     refine WQ.pass rfl rfl rfl <| WQ.pass rfl rfl rfl <| WQ.pass rfl rfl rfl <| WQ.pass rfl rfl rfl <| WQ.pass rfl rfl rfl <| WQ.ev (Ev.pick_f rfl rfl) rfl <| WQ.re (t := 44) (u := .bool false) (v := .bool (lsB ys i k)) rfl (congrArg Value.bool (by exact lsB_no (by have := of_decide_eq_false hb24; omega))) ?_
     exact WQ.cend rfl
   refine WQ.done fun w3 e3 => ?_
   have K3 := K2.grow e3
   refine WP.cond_end rfl (fun hc44 => ?_) (fun hc44 => ?_)
   ·
    refine rge <| mv rfl <| as_ rfl <| dne ?_
    refine Pst.blk_norm (Pst.norm ?_)
    refine rge <| ev (Ev.add rfl rfl (I64.mk (by omega) (by omega))) <| mv rfl <| dne ?_
    have hq4 : (((2 * i + 1 + k : Nat) : Int) : Int) = ((leastF ys i (k + 1) : Nat) : Int) := by simp only [leastF]; first | rw [if_pos (show lsB' ys (2 * i + 1 + k) (leastF ys i k) = true from hc44)] | rw [if_neg (show ¬ lsB' ys (2 * i + 1 + k) (leastF ys i k) = true by rw [show lsB' ys (2 * i + 1 + k) (leastF ys i k) = false from hc44]; decide)]
    refine Pst.re (t := 3) rfl (congrArg (Value.int .i64) hq4) ?_
    have hq5 : (((k + 1 : Nat) : Int) : Int) = (((k + 1) : Nat) : Int) := by simp
    refine Pst.re (t := 14) rfl (congrArg (Value.int .i64) hq5) ?_
    exact Pst.ag ⟨(k + 1), rfl, rfl, by omega, K3⟩ rfl (by omega)
   refine WP.skip (Pst.blk_norm (Pst.norm ?_))
   refine rge <| ev (Ev.add rfl rfl (I64.mk (by omega) (by omega))) <| mv rfl <| dne ?_
   have hq6 : (((leastF ys i k : Nat) : Int) : Int) = ((leastF ys i (k + 1) : Nat) : Int) := by simp only [leastF]; first | rw [if_pos (show lsB' ys (2 * i + 1 + k) (leastF ys i k) = true from hc44)] | rw [if_neg (show ¬ lsB' ys (2 * i + 1 + k) (leastF ys i k) = true by rw [show lsB' ys (2 * i + 1 + k) (leastF ys i k) = false from hc44]; decide)]
   refine Pst.re (t := 3) rfl (congrArg (Value.int .i64) hq6) ?_
   have hq7 : (((k + 1 : Nat) : Int) : Int) = (((k + 1) : Nat) : Int) := by simp
   refine Pst.re (t := 14) rfl (congrArg (Value.int .i64) hq7) ?_
   exact Pst.ag ⟨(k + 1), rfl, rfl, by omega, K3⟩ rfl (by omega)
  replace hc15 := of_decide_eq_false hc15
  refine WP.exit (Pst.then_exit (Pst.then_exit (Pst.blk_eq (Pst.norm ?_))))
  have hk2 : k = 2 := by omega
  have hlm : leastF ys i 2 = leastF ys i k := by rw [hk2]
  have hlt := leastF_lt ys i k
  refine rg <| mv rfl <| mv rfl <| ev (Ev.neq rfl rfl) <| dn ?_
  refine WP.cond_end rfl (fun hc49 => ?_) (fun hc49 => ?_)
  ·
   replace hc49 := not_dec_t hc49
   obtain ⟨x3, hx3⟩ := get_some (xs := ys) (i := i) (by omega)
   obtain ⟨x4, hx4⟩ := get_some (xs := ys) (i := leastF ys i k) (by omega)
   have hsA := (K2.o s0).some_ hx3
   have hgo := downG_go hlm (by omega) hx3 hx4
   refine WP.held (fun wS => Hp b S wS (rBx g 162 [.slice A ys.length c, .func (.func 126) #[] #[]] :: F)) (fun lJ wJ => lJ = [(0, .pointer (some ⟨g, 0, none⟩)), (2, .int .i64 ((i : Nat) : Int)), (3, .int .i64 ((leastF ys i k : Nat) : Int))] ∧ Hp b S wJ (rOwn tNeed 90 A c ((ys.set i x4).set (leastF ys i k) x3) :: rBx g 162 [.slice A ys.length c, .func (.func 126) #[] #[]] :: F)) (by kernel_rfl) ?_ ?_
   ·
    have H1 := K2.grow (Ext.refl w2).drew
    refine WH.ns (by kernel_rfl) fun hns => ?_
    have k1 := (H1.rm s0)
    refine WH.tn (fuel := 27) 0 (LM 28 1) hns rfl (by kernel_rfl) (fun _ hK => (Ev.move rfl)) rfl k1 <| WH.tn (fuel := 26) 1 (LM 28 3) hns rfl (by kernel_rfl) (fun _ hK => (Ev.nilCheck rfl)) rfl k1 ?_
    refine WH.tn (fuel := 25) 2 (LM 28 7) hns rfl (by kernel_rfl) (fun _ hK => (Ev.field (q := ⟨g, 0, none⟩) fa_160_0 rfl rfl)) rfl k1 <| WH.tn (fuel := 24) 3 (LM 28 15) hns rfl (by kernel_rfl) (fun _ hK => (Ev.loadBoxCell na_82 rfl (hK.x s0) rfl)) rfl k1 ?_
    refine WH.tn (fuel := 23) 4 (LM 28 31) hns rfl (by kernel_rfl) (fun _ hK => (Ev.move rfl)) rfl k1 <| WH.tn (fuel := 22) 5 (LM 28 63) hns rfl (by kernel_rfl) (fun _ hK => (Ev.move rfl)) rfl k1 ?_
    refine WH.tn (fuel := 21) 6 (LM 28 127) hns rfl (by kernel_rfl) (fun _ hK => (Ev.nilCheck rfl)) rfl k1 <| WH.tn (fuel := 20) 7 (LM 28 255) hns rfl (by kernel_rfl) (fun _ hK => (Ev.field (q := ⟨g, 0, none⟩) fa_160_0 rfl rfl)) rfl k1 ?_
    refine WH.tn (fuel := 19) 8 (LM 28 511) hns rfl (by kernel_rfl) (fun _ hK => (Ev.loadBoxCell na_82 rfl (hK.x s0) rfl)) rfl k1 <| WH.tn (fuel := 18) 9 (LM 28 1023) hns rfl (by kernel_rfl) (fun _ hK => (Ev.move rfl)) rfl k1 ?_
    refine WH.tn (fuel := 17) 10 (LM 28 2047) hns rfl (by kernel_rfl) (fun _ hK => (Ev.move rfl)) rfl k1 <| WH.tn (fuel := 16) 11 (LM 28 4095) hns rfl (by kernel_rfl) (fun _ hK => (Ev.nilCheck rfl)) rfl k1 ?_
    refine WH.tn (fuel := 15) 12 (LM 28 8191) hns rfl (by kernel_rfl) (fun _ hK => (Ev.field (q := ⟨g, 0, none⟩) fa_160_0 rfl rfl)) rfl k1 <| WH.tn (fuel := 14) 13 (LM 28 16383) hns rfl (by kernel_rfl) (fun _ hK => (Ev.loadBoxCell na_82 rfl (hK.x s0) rfl)) rfl k1 ?_
    refine WH.tn (fuel := 13) 14 (LM 28 32767) hns rfl (by kernel_rfl) (fun _ hK => (Ev.move rfl)) rfl k1 <| WH.tn (fuel := 12) 15 (LM 28 65535) hns rfl (by kernel_rfl) (fun _ hK => (Ev.index (i := leastF ys i k) Tryz.underlying82 sz_90 rfl rfl rfl (lt_of_get hx4) hsA)) rfl k1 ?_
    refine WH.tn (fuel := 11) 17 (LM 28 196607) hns rfl (by kernel_rfl) (fun _ hK => (Ev.move rfl)) rfl k1 <| WH.tn (fuel := 10) 18 (LM 28 458751) hns rfl (by kernel_rfl) (fun _ hK => (Ev.nilCheck rfl)) rfl k1 ?_
    refine WH.tn (fuel := 9) 19 (LM 28 983039) hns rfl (by kernel_rfl) (fun _ hK => (Ev.field (q := ⟨g, 0, none⟩) fa_160_0 rfl rfl)) rfl k1 <| WH.tn (fuel := 8) 20 (LM 28 2031615) hns rfl (by kernel_rfl) (fun _ hK => (Ev.loadBoxCell na_82 rfl (hK.x s0) rfl)) rfl k1 ?_
    refine WH.tn (fuel := 7) 21 (LM 28 4128767) hns rfl (by kernel_rfl) (fun _ hK => (Ev.move rfl)) rfl k1 <| WH.tn (fuel := 6) 22 (LM 28 8323071) hns rfl (by kernel_rfl) (fun _ hK => (Ev.index (i := i) Tryz.underlying82 sz_90 rfl rfl rfl (lt_of_get hx3) hsA)) rfl k1 ?_
    refine WH.join (fun lJ wJ => lJ = [(0, .pointer (some ⟨g, 0, none⟩)), (2, .int .i64 ((i : Nat) : Int)), (3, .int .i64 ((leastF ys i k : Nat) : Int)), (53, .slice A ys.length c), (54, .int .i64 ((i : Nat) : Int)), (58, .slice A ys.length c), (59, .int .i64 ((leastF ys i k : Nat) : Int)), (66, .agg #[.int .i64 x4.Chunk, .int .i64 x4.Have, .int .i64 x4.Live]), (73, .agg #[.int .i64 x3.Chunk, .int .i64 x3.Have, .int .i64 x3.Live])] ∧ Hp b S wJ (rOwn tNeed 90 A c ys :: rBx g 162 [.slice A ys.length c, .func (.func 126) #[] #[]] :: F)) 4 (LM 28 16777215) ?_ fun hS1 => ?_
    ·
     rintro _ w6 ⟨rfl, K6⟩
     have k4 := (K6.rm s0)
     refine WH.tn (fuel := 3) 24 (LM 28 33554431) hns rfl (by kernel_rfl) (fun _ hK => (Ev.index (i := i) Tryz.underlying82 sz_90 rfl rfl rfl (lt_of_get hx3) hsA)) rfl k4 ?_
     refine WH.one (fuel := 2) 25 (by kernel_rfl) rfl ?_
     refine se (i := i) (f := 0) (x := x3) (x' := x4) (ds := [.int .i64 x4.Chunk, .int .i64 x4.Have, .int .i64 x4.Live]) K6 s0 rfl rfl rfl hx3 rfl sz_90 (Nat.le_of_ble_eq_true rfl) rfl (fun _ _ _ h => by have h' : _ = _ := h; subst h'; rfl) fun w7 K7 => ?_
     have hl3 : (ys.set i x4).length = ys.length := List.length_set ..
     refine WL.re (t := 53) (u := .slice A ys.length c) (v := .slice A ((ys.set i x4).length) c) rfl (by rw [hl3]) <| WL.re (t := 58) (u := .slice A ys.length c) (v := .slice A ((ys.set i x4).length) c) rfl (by rw [hl3]) ?_
     have hx8 : (ys.set i x4)[i]? = some x4 := List.getElem?_set_self (lt_of_get hx3)
     have k5 := (K7.rm s0)
     refine WH.next k5 ?_
     obtain ⟨x6, hx9⟩ := get_some (xs := (ys.set i x4)) (i := leastF ys i k) (by omega)
     refine WH.tn (fuel := 1) 26 (LM 28 134217727) hns rfl (by kernel_rfl) (fun _ hK => (Ev.index (i := leastF ys i k) Tryz.underlying82 sz_90 rfl rfl rfl (lt_of_get hx9) hsA)) rfl k5 ?_
     refine WH.one (fuel := 0) 27 (by kernel_rfl) rfl ?_
     refine se (i := leastF ys i k) (f := 0) (x := x6) (x' := x3) (ds := [.int .i64 x3.Chunk, .int .i64 x3.Have, .int .i64 x3.Live]) K7 s0 rfl rfl rfl hx9 rfl sz_90 (Nat.le_of_ble_eq_true rfl) rfl (fun _ _ _ h => by have h' : _ = _ := h; subst h'; rfl) fun w8 K8 => ?_
     have hl4 : ((ys.set i x4).set (leastF ys i k) x3).length = (ys.set i x4).length := List.length_set ..
     refine WL.re (t := 53) (u := .slice A ((ys.set i x4).length) c) (v := .slice A (((ys.set i x4).set (leastF ys i k) x3).length) c) rfl (by rw [hl4]) <| WL.re (t := 58) (u := .slice A ((ys.set i x4).length) c) (v := .slice A (((ys.set i x4).set (leastF ys i k) x3).length) c) rfl (by rw [hl4]) ?_
     have hx10 : ((ys.set i x4).set (leastF ys i k) x3)[leastF ys i k]? = some x3 := List.getElem?_set_self (lt_of_get hx9)
     have k6 := (K8.rm s0)
     refine WH.next k6 ?_
     exact WH.dn ⟨rfl, K8⟩ rfl (by kernel_rfl)
    refine WH.two (fuel := 5) 16 23 (by kernel_rfl) rfl rfl ?_ ?_
    ·
     refine ev (Ev.loadRow ag_90 rfl rfl ((H1.o s0).flat_row hx4)) <| WH.next k1 <| WH.one (fuel := 4) 23 (by kernel_rfl) rfl <| ev (Ev.loadRow ag_90 rfl rfl ((H1.o s0).flat_row hx3)) ?_
     exact WH.kj hS1 (by kernel_rfl) k1 ⟨rfl, H1⟩ rfl
    ·
     refine ev (Ev.loadRow ag_90 rfl rfl ((H1.o s0).flat_row hx3)) <| WH.next k1 <| WH.one (fuel := 4) 16 (by kernel_rfl) rfl <| ev (Ev.loadRow ag_90 rfl rfl ((H1.o s0).flat_row hx4)) ?_
     exact WH.kj hS1 (by kernel_rfl) k1 ⟨rfl, H1⟩ rfl
   rintro _ w9 ⟨rfl, K9⟩
   refine rg <| mv rfl <| as_ rfl <| dn <| WP.goto ?_
   have hq8 : (((leastF ys i k : Nat) : Int) : Int) = (((leastF ys i k) : Nat) : Int) := by simp
   refine Pst.re (t := 2) rfl (congrArg (Value.int .i64) hq8) ?_
   have hq9 : (.slice A ys.length c : Value) = .slice A (((ys.set i x4).set (leastF ys i k) x3).length) c := by rw [List.length_set, List.length_set]
   try rw [hq9] at K9
   exact Pst.jag ⟨(leastF ys i k), ((ys.set i x4).set (leastF ys i k) x3), rfl, rfl, by rw [List.length_set, List.length_set]; exact hyl, by omega, by rw [List.length_set, List.length_set, ← hgo]; exact hdn, K9⟩ rfl (by omega)
  replace hc49 := not_dec_f hc49
  refine WP.skip (Pst.jump_norm (Pst.body_norm (Pst.body_ret rfl rfl rfl ?_)))
  have hst : downG (ys.length - i + 1) ys i = ys := downG_stop (by omega)
  have hfi : ys = downL l := by rw [← hst, hdn]; rfl
  exact ⟨rfl, by rw [← hfi]; exact ((K2.sel s0).sel s1)⟩
 ·
  intro hp0
  refine rg <| as_ rfl <| as_ rfl <| dn ?_
  have hq1 : (0 : Int) = ((0 : Nat) : Int) := by simp
  refine WP.re (t := 2) rfl (congrArg (Value.int .i64) hq1) ?_
  exact WP.kp hp0 ⟨0, l, rfl, rfl, by rfl, by omega, by rw [Nat.sub_zero], ((H0.sel s0).sel s1)⟩ rfl

end Go.Proofs.YtjcklpooaaaglaaGreat
set_option maxRecDepth 4000
set_option linter.all false
namespace Go.Proofs.YtjcklpooaaaglaaGreat
open Go.RowKit

theorem upL_len (l : List ANeed) : (upL l).length = l.length := upG_len _ _ _
theorem downL_len (l : List ANeed) : (downL l).length = l.length := downG_len _ _ _
def putQ (l : List ANeed) (n : ANeed) : List ANeed := upL (l ++ [n])
theorem putQ_len (l : List ANeed) (n : ANeed) : (putQ l n).length = l.length + 1 := by unfold putQ; rw [upL_len]; simp
def takeN (l : List ANeed) : ANeed := match l[0]? with | some x => x | none => ⟨0, 0, 0⟩
def takeB (l : List ANeed) : Bool := decide (0 < l.length)
def takeL (l : List ANeed) : List ANeed := match l[l.length - 1]? with | some z => downL ((l.set 0 z).take (l.length - 1)) | none => l
theorem takeL_len (l : List ANeed) : (takeL l).length = l.length - 1 := by
  unfold takeL
  split
  · rw [downL_len]; simp
  · rename_i h
    have := List.getElem?_eq_none_iff.1 h
    omega
theorem takeN_at {l : List ANeed} {x : ANeed} (hx : l[0]? = some x) : takeN l = x := by unfold takeN; rw [hx]
theorem takeB_at {l : List ANeed} (h : 0 < l.length) : takeB l = true := decide_eq_true h
theorem takeL_at {l : List ANeed} {z : ANeed} (hz : l[l.length - 1]? = some z) : takeL l = downL ((l.set 0 z).take (l.length - 1)) := by unfold takeL; rw [hz]

theorem bl_160_1F126  : Tryz.prog.built 160 [(1, .func (.func 126) #[] #[])] = some #[.slice none 0 0, .func (.func 126) #[] #[]] := by kernel_rfl
theorem bl_162_0A (a0_0 : Option Addr) (a0_0n a0_0c : Nat) : Tryz.prog.built 162 [(0, .agg #[.slice a0_0 a0_0n a0_0c, .func (.func 126) #[] #[]])] = some #[.slice a0_0 a0_0n a0_0c, .func (.func 126) #[] #[]] := by kernel_rfl
theorem fa_162_0 : FieldAt Tryz.prog 162 0 0 := fun _ _ => by kernel_rfl
theorem bs_82_1_III (a0 : Int) (a1 : Int) (a2 : Int) : ∀ w, (Instr.buildSlice 82 1 (List.toArray [(0, .agg #[.int .i64 a0, .int .i64 a1, .int .i64 a2])])).run Tryz.prog w = .ok (.slice (some ⟨w.heap.size, 0, none⟩) 1 1) (w.alloc (.cells (List.toArray [.int .i64 a0, .int .i64 a1, .int .i64 a2]) 90)) := fun _ => by kernel_rfl
theorem ei_90 : ElemInfo Tryz.prog 90 3 24 := by
  obtain ⟨i, h1, h2, h3, h4⟩ := info_parts (show (Tryz.prog.info? 90).map (fun i => (i.zero, i.size, i.bytes)) = some (some (.agg #[.int .i64 0, .int .i64 0, .int .i64 0]), 3, 24) by kernel_rfl)
  exact ⟨i, _, h1, h2, h3, h4, rfl⟩
theorem sz_82 : Size Tryz.prog 82 1 := fun _ => by kernel_rfl
theorem cl_127 : Callable Tryz.prog 127 := fun _ _ => by kernel_rfl
theorem zero_90 : ∀ w, (zeroValue 90).run Tryz.prog w = .ok (.agg #[.int .i64 0, .int .i64 0, .int .i64 0]) w := fun _ => by kernel_rfl
theorem bl_90_  : Tryz.prog.built 90 [] = some #[.int .i64 0, .int .i64 0, .int .i64 0] := by kernel_rfl
theorem cl_128 : Callable Tryz.prog 128 := fun _ _ => by kernel_rfl
theorem qnew_ok {S0 : Nat → Prop} (w : World) :
    Rets Tryz.prog 78 #[] w fun v w' => ∃ g, v = .pointer (some ⟨g, 0, none⟩) ∧ Hp w S0 w' [rBx g 162 [.slice none 0 0, .func (.func 126) #[] #[]], rOwn tNeed 90 none 0 []] := by
 refine WP.enter Tryz.func78 rfl Tryz.ntmps78 rfl ?_
 have H0 := Hp.init w S0
 refine rg <| as_ rfl <| dn <| rg <| ev (Ev.build (vs := [(1, .func (.func 126) #[] #[])]) (cs := [.slice none 0 0, .func (.func 126) #[] #[]]) rfl (by apply bl_160_1F126)) ?_
 refine ev (Ev.build (vs := [(0, .agg #[.slice none 0 0, .func (.func 126) #[] #[]])]) (cs := [.slice none 0 0, .func (.func 126) #[] #[]]) rfl (by apply bl_162_0A)) ?_
 refine bx (cs := [.slice none 0 0, .func (.func 126) #[] #[]]) rfl rfl H0 fun g1 w1 K1 => ?_
 refine as_ rfl <| dn ?_
 refine WP.ret (Pst.body_ret rfl rfl rfl ?_)
 have H1 := K1.nil tNeed 90
 exact ⟨_, rfl, ((H1.sel s0).sel s1)⟩

theorem qput_ok {b w : World} {S : Nat → Prop} {F : List Res} {g : Nat} {A : Option Addr} {c : Nat} {l : List ANeed} (H0 : Hp b S w (rBx g 162 [.slice A l.length c, .func (.func 126) #[] #[]] :: rOwn tNeed 90 A c l :: F)) (n : ANeed) (hn : l.length ≤ 100000) :
    Rets Tryz.prog 79 #[.pointer (some ⟨g, 0, none⟩), .agg #[.int .i64 n.Chunk, .int .i64 n.Have, .int .i64 n.Live]] w fun v w' => v = .tuple #[] ∧ ∃ A' c', Hp b S w' (rBx g 162 [.slice A' (putQ l n).length c', .func (.func 126) #[] #[]] :: rOwn tNeed 90 A' c' (putQ l n) :: F) := by
 refine WP.enter Tryz.func79 rfl Tryz.ntmps79 rfl <| rg ?_
 refine bx (cs := [.int .i64 n.Chunk, .int .i64 n.Have, .int .i64 n.Live]) rfl rfl H0 fun g1 w1 K1 => ?_
 refine dn ?_
 refine WP.held (fun wS => Hp b S wS (rBx g1 90 [.int .i64 n.Chunk, .int .i64 n.Have, .int .i64 n.Live] :: F)) (fun lJ wJ => ∃ (Aj1 : Option Addr) (cj1 : Nat), lJ = [(0, .pointer (some ⟨g, 0, none⟩))] ∧ Hp b S wJ (rBx g 162 [.slice Aj1 ((l ++ ([n] : List ANeed)).length) cj1, .func (.func 126) #[] #[]] :: rOwn tNeed 90 Aj1 cj1 (l ++ ([n] : List ANeed)) :: rBx g1 90 [.int .i64 n.Chunk, .int .i64 n.Have, .int .i64 n.Live] :: F)) (by kernel_rfl) ?_ ?_
 ·
  have H1 := K1.grow (Ext.refl w1).drew
  refine WH.ns (by kernel_rfl) fun hns => ?_
  have k1 := ((H1.rm s2).rm s1)
  refine WH.tn (fuel := 12) 0 (LM 13 1) hns rfl (by kernel_rfl) (fun _ hK => (Ev.move rfl)) rfl k1 <| WH.tn (fuel := 11) 1 (LM 13 3) hns rfl (by kernel_rfl) (fun _ hK => (Ev.move rfl)) rfl k1 ?_
  refine WH.tn (fuel := 10) 2 (LM 13 7) hns rfl (by kernel_rfl) (fun _ hK => (Ev.nilCheck rfl)) rfl k1 <| WH.tn (fuel := 9) 3 (LM 13 15) hns rfl (by kernel_rfl) (fun _ hK => (Ev.field (q := ⟨g, 0, none⟩) fa_162_0 rfl rfl)) rfl k1 ?_
  refine WH.tn (fuel := 8) 4 (LM 13 31) hns rfl (by kernel_rfl) (fun _ hK => (Ev.field (q := ⟨g, 0, none⟩) fa_160_0 rfl rfl)) rfl k1 <| WH.tn (fuel := 7) 6 (LM 13 95) hns rfl (by kernel_rfl) (fun _ hK => (Ev.loadBox ag_90 rfl rfl (hK.x s0))) rfl k1 ?_
  refine WH.join (fun lJ wJ => ∃ (g2 : Nat), lJ = [(0, .pointer (some ⟨g, 0, none⟩)), (4, .pointer (some ⟨g, 0, none⟩)), (9, .slice A l.length c), (11, .slice (some ⟨g2, 0, none⟩) (([n] : List ANeed).length) 1)] ∧ Hp b S wJ (rOwn tNeed 90 (some ⟨g2, 0, none⟩) 1 ([n] : List ANeed) :: rBx g1 90 [.int .i64 n.Chunk, .int .i64 n.Have, .int .i64 n.Live] :: rBx g 162 [.slice A l.length c, .func (.func 126) #[] #[]] :: rOwn tNeed 90 A c l :: F)) 5 (LM 13 255) ?_ fun hS1 => ?_
  ·
   rintro _ w6 ⟨g2, rfl, K6⟩
   refine WH.one (fuel := 4) 8 (by kernel_rfl) rfl ?_
   refine ap (xs := l) (ys := ([n] : List ANeed)) K6 s3 rfl rfl (K6.o s0) Tryz.underlying82 ei_90 (by first | omega | (simp; omega) | (simp; done)) (by simp) rfl fun Ap2 cp2 w7 K7 => ?_
   have k6 := (((K7.rm s3).rm s1).rm s0)
   refine WH.next k6 <| WH.tn (fuel := 3) 9 (LM 13 1023) hns rfl (by kernel_rfl) (fun _ hK => (Ev.nilCheck rfl)) rfl k6 <| WH.tn (fuel := 2) 10 (LM 13 2047) hns rfl (by kernel_rfl) (fun _ hK => (Ev.field (q := ⟨g, 0, none⟩) fa_162_0 rfl rfl)) rfl k6 ?_
   refine WH.tn (fuel := 1) 11 (LM 13 4095) hns rfl (by kernel_rfl) (fun _ hK => (Ev.field (q := ⟨g, 0, none⟩) fa_160_0 rfl rfl)) rfl k6 <| WH.one (fuel := 0) 12 (by kernel_rfl) rfl ?_
   refine stc rfl rfl rfl sz_82 K7 s3 rfl fun w8 K8 => ?_
   have k7 := (((K8.rm s2).rm s1).rm s0)
   refine WH.next k7 ?_
   exact WH.dn ⟨Ap2, cp2, rfl, (K8.rm s2)⟩ rfl (by kernel_rfl)
  refine WH.two (fuel := 6) 5 7 (by kernel_rfl) rfl rfl ?_ ?_
  ·
   refine ev (Ev.loadBoxCell na_82 rfl (H1.x s1) rfl) <| WH.next k1 <| WH.one (fuel := 5) 7 (by kernel_rfl) rfl ?_
   refine bs1 (τ := tNeed) (x := n) (vs := [(0, .agg #[.int .i64 n.Chunk, .int .i64 n.Have, .int .i64 n.Live])]) (cs := [.int .i64 n.Chunk, .int .i64 n.Have, .int .i64 n.Live]) rfl (by intro _; apply bs_82_1_III) rfl H1 (fun _ _ => rfl) fun g4 w9 K9 => ?_
   have k8 := (((K9.rm s3).rm s2).rm s0)
   exact WH.kj hS1 (by kernel_rfl) k8 ⟨g4, rfl, K9⟩ rfl
  ·
   refine bs1 (τ := tNeed) (x := n) (vs := [(0, .agg #[.int .i64 n.Chunk, .int .i64 n.Have, .int .i64 n.Live])]) (cs := [.int .i64 n.Chunk, .int .i64 n.Have, .int .i64 n.Live]) rfl (by intro _; apply bs_82_1_III) rfl H1 (fun _ _ => rfl) fun g5 w10 K10 => ?_
   have k9 := (((K10.rm s3).rm s2).rm s0)
   refine WH.next k9 <| WH.one (fuel := 5) 5 (by kernel_rfl) rfl <| ev (Ev.loadBoxCell na_82 rfl (K10.x s2) rfl) ?_
   exact WH.kj hS1 (by kernel_rfl) k9 ⟨g5, rfl, K10⟩ rfl
 rintro _ w11 ⟨Aj1, cj1, rfl, K11⟩
 refine rge <| mv rfl <| ev (Ev.nilCheck rfl) <| ev (Ev.field (q := ⟨g, 0, none⟩) fa_162_0 rfl rfl) <| WL.call rfl rfl rfl cl_127 (hup_ok K11 (by first | omega | (simp; done) | (simp; omega)) (by first | omega | (simp; done) | (simp; omega))) rfl ?_
 rintro _ w12 ⟨rfl, K12⟩
 refine dne ?_
 refine Pst.body_norm (Pst.body_ret rfl rfl rfl ?_)
 have H2 := (K12.rm s2)
 exact ⟨rfl, _, _, H2⟩

theorem qtake_ok {b w : World} {S : Nat → Prop} {F : List Res} {g : Nat} {A : Option Addr} {c : Nat} {l : List ANeed} (H0 : Hp b S w (rBx g 162 [.slice A l.length c, .func (.func 126) #[] #[]] :: rOwn tNeed 90 A c l :: F)) (hn : l.length ≤ 100000) :
    Rets Tryz.prog 80 #[.pointer (some ⟨g, 0, none⟩)] w fun v w' => v = .tuple #[.agg #[.int .i64 ((takeN l).Chunk), .int .i64 ((takeN l).Have), .int .i64 ((takeN l).Live)], .bool (takeB l)] ∧ Hp b S w' (rBx g 162 [.slice A (takeL l).length c, .func (.func 126) #[] #[]] :: rOwn tNeed 90 A c (takeL l) :: F) := by
 refine WP.enter Tryz.func80 rfl Tryz.ntmps80 rfl <| rg ?_
 refine al (cs := [.int .i64 0, .int .i64 0, .int .i64 0]) zero_90 rfl H0 fun g1 w1 K1 => ?_
 refine as_ rfl <| dn <| rg <| mv rfl <| ev (Ev.nilCheck rfl) <| ev (Ev.field (q := ⟨g, 0, none⟩) fa_162_0 rfl rfl) <| ev (Ev.field (q := ⟨g, 0, none⟩) fa_160_0 rfl rfl) ?_
 refine ev (Ev.loadBoxCell na_82 rfl (K1.x s1) rfl) <| ev (Ev.len Tryz.underlying82 rfl) <| ev (Ev.sub rfl rfl (I64.mk (by omega) (by omega))) <| as_ rfl <| dn ?_
 refine WP.seq <| rg <| mv rfl <| ev (Ev.lss rfl rfl) <| dn ?_
 refine WP.cond_end rfl (fun hc14 => ?_) (fun hc14 => ?_)
 ·
  replace hc14 := of_decide_eq_true hc14
  refine rg <| ev (Ev.build (vs := []) (cs := [.int .i64 0, .int .i64 0, .int .i64 0]) rfl (by apply bl_90_)) ?_
  refine stw (ds := [.int .i64 0, .int .i64 0, .int .i64 0]) rfl rfl rfl sz_90 K1 s0 rfl rfl fun w2 K2 => ?_
  refine as_ rfl <| dn ?_
  refine WP.ret (Pst.then_ret (Pst.retC rfl ⟨_, _, rfl, ⟨_, rfl, loads_box (cs := [.int .i64 0, .int .i64 0, .int .i64 0]) ag_90 rfl (K2.x s0)⟩, ⟨_, _, rfl, rfl, rfl⟩⟩ ?_))
  have H1 := (K2.rm s0)
  have hl0 : l = [] := List.eq_nil_of_length_eq_zero (by omega)
  exact ⟨by subst hl0; rfl, by subst hl0; exact H1⟩
 replace hc14 := of_decide_eq_false hc14
 refine WP.skip (Pst.norm ?_)
 refine WP.re (t := 4) (u := .int .i64 (((l.length : Nat) : Int) - 1)) rfl (congrArg (Value.int .i64) (show (((l.length : Nat) : Int) - 1 : Int) = ((l.length - 1 : Nat) : Int) by omega)) ?_
 obtain ⟨x1, hx1⟩ := get_some (xs := l) (i := 0) (by omega)
 obtain ⟨x2, hx2⟩ := get_some (xs := l) (i := l.length - 1) (by omega)
 refine rg <| mv rfl <| ev (Ev.nilCheck rfl) <| ev (Ev.field (q := ⟨g, 0, none⟩) fa_162_0 rfl rfl) <| ev (Ev.field (q := ⟨g, 0, none⟩) fa_160_0 rfl rfl) <| ev (Ev.loadBoxCell na_82 rfl (K1.x s1) rfl) ?_
 refine ev (Ev.index (i := 0) Tryz.underlying82 sz_90 rfl rfl rfl (lt_of_get hx1) ((K1.o s2).some_ hx1)) <| ev (Ev.loadRow ag_90 rfl rfl ((K1.o s2).flat_row hx1)) ?_
 refine al (cs := [.int .i64 0, .int .i64 0, .int .i64 0]) zero_90 rfl K1 fun g2 w3 K3 => ?_
 refine stw (ds := [.int .i64 x1.Chunk, .int .i64 x1.Have, .int .i64 x1.Live]) rfl rfl rfl sz_90 K3 s0 rfl rfl fun w4 K4 => ?_
 refine dn ?_
 have hsA := (K4.o s3).some_ hx1
 refine WP.held (fun wS => Hp b S wS (rBx g2 90 [.int .i64 x1.Chunk, .int .i64 x1.Have, .int .i64 x1.Live] :: rBx g1 90 [.int .i64 0, .int .i64 0, .int .i64 0] :: rBx g 162 [.slice A l.length c, .func (.func 126) #[] #[]] :: F)) (fun lJ wJ => lJ = [(0, .pointer (some ⟨g, 0, none⟩)), (2, .pointer (some ⟨g1, 0, none⟩)), (4, .int .i64 ((l.length - 1 : Nat) : Int)), (5, .pointer (some ⟨g2, 0, none⟩))] ∧ Hp b S wJ (rOwn tNeed 90 A c (l.set 0 x2) :: rBx g2 90 [.int .i64 x1.Chunk, .int .i64 x1.Have, .int .i64 x1.Live] :: rBx g1 90 [.int .i64 0, .int .i64 0, .int .i64 0] :: rBx g 162 [.slice A l.length c, .func (.func 126) #[] #[]] :: F)) (by kernel_rfl) ?_ ?_
 ·
  have H2 := K4.grow (Ext.refl w4).drew
  refine WH.ns (by kernel_rfl) fun hns => ?_
  have k1 := (H2.rm s3)
  refine WH.tn (fuel := 14) 0 (LM 15 1) hns rfl (by kernel_rfl) (fun _ hK => (Ev.move rfl)) rfl k1 <| WH.tn (fuel := 13) 1 (LM 15 3) hns rfl (by kernel_rfl) (fun _ hK => (Ev.nilCheck rfl)) rfl k1 ?_
  refine WH.tn (fuel := 12) 2 (LM 15 7) hns rfl (by kernel_rfl) (fun _ hK => (Ev.field (q := ⟨g, 0, none⟩) fa_162_0 rfl rfl)) rfl k1 <| WH.tn (fuel := 11) 3 (LM 15 15) hns rfl (by kernel_rfl) (fun _ hK => (Ev.field (q := ⟨g, 0, none⟩) fa_160_0 rfl rfl)) rfl k1 ?_
  refine WH.tn (fuel := 10) 4 (LM 15 31) hns rfl (by kernel_rfl) (fun _ hK => (Ev.loadBoxCell na_82 rfl (hK.x s2) rfl)) rfl k1 <| WH.tn (fuel := 9) 5 (LM 15 63) hns rfl (by kernel_rfl) (fun _ hK => (Ev.move rfl)) rfl k1 ?_
  refine WH.tn (fuel := 8) 6 (LM 15 127) hns rfl (by kernel_rfl) (fun _ hK => (Ev.nilCheck rfl)) rfl k1 <| WH.tn (fuel := 7) 7 (LM 15 255) hns rfl (by kernel_rfl) (fun _ hK => (Ev.field (q := ⟨g, 0, none⟩) fa_162_0 rfl rfl)) rfl k1 ?_
  refine WH.tn (fuel := 6) 8 (LM 15 511) hns rfl (by kernel_rfl) (fun _ hK => (Ev.field (q := ⟨g, 0, none⟩) fa_160_0 rfl rfl)) rfl k1 <| WH.tn (fuel := 5) 9 (LM 15 1023) hns rfl (by kernel_rfl) (fun _ hK => (Ev.loadBoxCell na_82 rfl (hK.x s2) rfl)) rfl k1 ?_
  refine WH.tn (fuel := 4) 10 (LM 15 2047) hns rfl (by kernel_rfl) (fun _ hK => (Ev.move rfl)) rfl k1 <| WH.tn (fuel := 3) 11 (LM 15 4095) hns rfl (by kernel_rfl) (fun _ hK => (Ev.index (i := l.length - 1) Tryz.underlying82 sz_90 rfl rfl rfl (lt_of_get hx2) hsA)) rfl k1 ?_
  refine WH.one (fuel := 2) 12 (by kernel_rfl) rfl <| ev (Ev.loadRow ag_90 rfl rfl ((H2.o s3).flat_row hx2)) <| WH.next k1 <| WH.tn (fuel := 1) 13 (LM 15 16383) hns rfl (by kernel_rfl) (fun _ hK => (Ev.index (i := 0) Tryz.underlying82 sz_90 rfl rfl rfl (lt_of_get hx1) hsA)) rfl k1 ?_
  refine WH.one (fuel := 0) 14 (by kernel_rfl) rfl ?_
  refine se (i := 0) (f := 0) (x := x1) (x' := x2) (ds := [.int .i64 x2.Chunk, .int .i64 x2.Have, .int .i64 x2.Live]) H2 s3 rfl rfl rfl hx1 rfl sz_90 (Nat.le_of_ble_eq_true rfl) rfl (fun _ _ _ h => by have h' : _ = _ := h; subst h'; rfl) fun w5 K5 => ?_
  have hl1 : (l.set 0 x2).length = l.length := List.length_set ..
  refine WL.re (t := 10) (u := .slice A l.length c) (v := .slice A ((l.set 0 x2).length) c) rfl (by rw [hl1]) <| WL.re (t := 20) (u := .slice A l.length c) (v := .slice A ((l.set 0 x2).length) c) rfl (by rw [hl1]) ?_
  refine WL.re (t := 27) (u := .slice A l.length c) (v := .slice A ((l.set 0 x2).length) c) rfl (by rw [hl1]) <| WL.re (t := 32) (u := .slice A l.length c) (v := .slice A ((l.set 0 x2).length) c) rfl (by rw [hl1]) ?_
  have hx3 : (l.set 0 x2)[0]? = some x2 := List.getElem?_set_self (lt_of_get hx1)
  have k2 := (K5.rm s0)
  refine WH.next k2 ?_
  exact WH.dn ⟨rfl, K5⟩ rfl (by kernel_rfl)
 rintro _ w6 ⟨rfl, K6⟩
 refine rg <| mv rfl <| mv rfl <| ev (Ev.nilCheck rfl) <| ev (Ev.field (q := ⟨g, 0, none⟩) fa_162_0 rfl rfl) <| ev (Ev.field (q := ⟨g, 0, none⟩) fa_160_0 rfl rfl) ?_
 refine ev (Ev.loadBoxCell na_82 rfl (K6.x s3) rfl) <| mv rfl ?_
 have hcp := (K6.o s0).cap
 try simp only [List.length_set] at hcp
 refine ev (Ev.cutToN (hi := l.length - 1) Tryz.underlying82 sz_90 rfl rfl rfl (by omega)) ?_
 have hct : (((l.set 0 x2)).take (l.length - 1)).length = l.length - 1 := by simp only [List.length_take, List.length_set]; omega
 have H3 := K6.cutOwn (hi := l.length - 1) s0 (by first | omega | (simp only [List.length_set]; omega))
 refine WL.re (t := 44) (v := .slice A (((l.set 0 x2).take (l.length - 1))).length c) rfl (by rw [hct]) <| ev (Ev.nilCheck rfl) <| ev (Ev.field (q := ⟨g, 0, none⟩) fa_162_0 rfl rfl) ?_
 refine ev (Ev.field (q := ⟨g, 0, none⟩) fa_160_0 rfl rfl) ?_
 refine stc rfl rfl rfl sz_82 H3 s3 rfl fun w7 K7 => ?_
 refine dn <| rg <| mv rfl <| ev (Ev.nilCheck rfl) <| ev (Ev.field (q := ⟨g, 0, none⟩) fa_162_0 rfl rfl) <| WL.call rfl rfl rfl cl_128 (hdown_ok K7 (by first | omega | (simp; done) | (simp; omega))) rfl ?_
 rintro _ w8 ⟨rfl, K8⟩
 refine dn <| rg <| ev (Ev.loadBox ag_90 rfl rfl (K8.x s2)) ?_
 refine stw (ds := [.int .i64 x1.Chunk, .int .i64 x1.Have, .int .i64 x1.Live]) rfl rfl rfl sz_90 K8 s3 rfl rfl fun w9 K9 => ?_
 refine as_ rfl <| dn ?_
 refine WP.ret (Pst.retC rfl ⟨_, _, rfl, ⟨_, rfl, loads_box (cs := [.int .i64 x1.Chunk, .int .i64 x1.Have, .int .i64 x1.Live]) ag_90 rfl (K9.x s0)⟩, ⟨_, _, rfl, rfl, rfl⟩⟩ ?_)
 have H4 := ((K9.rm s3).rm s0)
 exact ⟨by rw [takeN_at hx1, takeB_at (by omega)] <;> rfl, by rw [takeL_at hx2]; exact H4⟩

end Go.Proofs.YtjcklpooaaaglaaGreat
set_option maxRecDepth 4000
set_option linter.all false
namespace Go.Proofs.YtjcklpooaaaglaaGreat
open Go.RowKit

def needB (all : List ANode) (alive : List Int) (want : Int) (c : AChunk) : Bool := decide ((0 : Int) < ((livL c alive).length : Int)) && decide (((goodL c all alive).length : Int) < want)
def needN (all : List ANode) (alive : List Int) (c : AChunk) : ANeed := ⟨c.ID, ((goodL c all alive).length : Int), ((livL c alive).length : Int)⟩
def needsF (all : List ANode) (alive : List Int) (want : Int) (q : List ANeed) (c : AChunk) : List ANeed := if needB all alive want c = true then putQ q (needN all alive c) else q
def needsQ (all : List ANode) (alive : List Int) (want : Int) (M : List AChunk) : List ANeed := M.foldl (needsF all alive want) []
def drain : Nat → List ANeed → List ANeed
  | 0, _ => []
  | f + 1, q => if takeB q = true then takeN q :: drain f (takeL q) else []
def needsL (l : List AChunk) (all : List ANode) (alive : List Int) (want : Int) : List ANeed := drain (needsQ all alive want l).length (needsQ all alive want l)
theorem needsQ_snoc {all : List ANode} {alive : List Int} {want : Int} {M : List AChunk} {k : Nat} {x : AChunk} (hx : M[k]? = some x) : needsQ all alive want (M.take (k + 1)) = needsF all alive want (needsQ all alive want (M.take k)) x := by
  unfold needsQ; rw [take_snoc hx, List.foldl_append]; rfl
theorem needsQ_len (all : List ANode) (alive : List Int) (want : Int) (M : List AChunk) : (needsQ all alive want M).length ≤ M.length := by
  have key : ∀ (M : List AChunk) (q : List ANeed), (M.foldl (needsF all alive want) q).length ≤ q.length + M.length := by
    intro M
    induction M with
    | nil => intro q; simp
    | cons c M ih =>
      intro q
      rw [List.foldl_cons]
      have h1 := ih (needsF all alive want q c)
      have h2 : (needsF all alive want q c).length ≤ q.length + 1 := by unfold needsF; split; rw [putQ_len]; omega; omega
      simp only [List.length_cons]; omega
  have := key M []
  simpa [needsQ] using this
theorem drain_step (q : List ANeed) : drain q.length q = if takeB q = true then takeN q :: drain (takeL q).length (takeL q) else [] := by
  cases q with
  | nil => rfl
  | cons x q =>
    rw [takeL_len]
    rfl
theorem take_m (q : List ANeed) : (takeL q).length + (if takeB q = true then 1 else 0) = q.length := by
  rw [takeL_len]; unfold takeB
  cases q with
  | nil => rfl
  | cons x q => simp
theorem needs_go {all : List ANode} {alive : List Int} {want : Int} {M : List AChunk} {k : Nat} {x : AChunk} (hx : M[k]? = some x) (h : needB all alive want x = true) : putQ (needsQ all alive want (M.take k)) (needN all alive x) = needsQ all alive want (M.take (k + 1)) := by
  rw [needsQ_snoc hx]; unfold needsF; rw [if_pos h]
theorem needs_no {all : List ANode} {alive : List Int} {want : Int} {M : List AChunk} {k : Nat} {x : AChunk} (hx : M[k]? = some x) (h : needB all alive want x = false) : needsQ all alive want (M.take k) = needsQ all alive want (M.take (k + 1)) := by
  rw [needsQ_snoc hx]; unfold needsF; rw [if_neg (by rw [h]; decide)]

theorem cl_78 : Callable Tryz.prog 78 := fun _ _ => by kernel_rfl
theorem bl_90_0I_1I_2I (a0 : Int) (a1 : Int) (a2 : Int) : Tryz.prog.built 90 [(0, .int .i64 a0), (1, .int .i64 a1), (2, .int .i64 a2)] = some #[.int .i64 a0, .int .i64 a1, .int .i64 a2] := by kernel_rfl
theorem cl_79 : Callable Tryz.prog 79 := fun _ _ => by kernel_rfl
theorem cl_80 : Callable Tryz.prog 80 := fun _ _ => by kernel_rfl
set_option maxHeartbeats 1000000 in
theorem needs_ok {S0 : Nat → Prop} (w : World) {A_l : Option Addr} {c_l : Nat} {l : List AChunk} (h_l : Sl tChunk S0 w A_l c_l l) {A_all : Option Addr} {c_all : Nat} {all : List ANode} (h_all : Sl tNode S0 w A_all c_all all) {A_alive : Option Addr} {c_alive : Nat} {alive : List Int} (h_alive : Sl tInt S0 w A_alive c_alive alive) (want : Int) (hl : l.length ≤ 10000) (hh : ∀ x ∈ l, x.Holders.length ≤ 100000) (hn : all.length ≤ 100000) :
    Rets Tryz.prog 39 #[.slice A_l l.length c_l, .slice A_all all.length c_all, .slice A_alive alive.length c_alive, .int .i64 want] w fun v w' => ∃ (A0 : Option Addr) (c0 : Nat), v = .slice A0 ((needsL l all alive want).length) c0 ∧ Hp w S0 w' [rOwn tNeed 90 A0 c0 (needsL l all alive want)] := by
 refine WP.enter Tryz.func39 rfl Tryz.ntmps39 rfl ?_
 have H0 := Hp.init w S0
 have hb_l := h_l.len_le
 have hb_all := h_all.len_le
 have hb_alive := h_alive.len_le
 refine rg <| as_ rfl <| dn <| rg <| WL.call rfl rfl rfl cl_78 (qnew_ok (S0 := Any) _) rfl ?_
 rintro _ w1 ⟨gq1, rfl, hn1⟩
 have K1 := H0.f2 hn1
 refine as_ rfl <| dn <| WP.seq <| rg <| mv rfl <| ev (Ev.len Tryz.underlying23 rfl) <| mv rfl <| dn <| WP.block ?_
 have hq1 : (0 : Int) = ((0 : Nat) : Int) := by simp
 refine WP.re (t := 19) rfl (congrArg (Value.int .i64) hq1) ?_
 have H1 := K1.nil tNeed 90
 have hq2 : ([] : List ANeed) = (needsQ all alive want (l.take 0)) := by rfl
 rw [hq2] at H1
 have hq3 : (.slice none 0 0 : Value) = .slice none ((needsQ all alive want (l.take 0)).length) 0 := by rfl
 try rw [hq3] at H1
 refine WP.lp (fun mJ lJ wJ => ∃ (k : Nat) (A9 : Option Addr) (c9 : Nat), lJ = [(1, .slice A_all all.length c_all), (2, .slice A_alive alive.length c_alive), (3, .int .i64 want), (9, .pointer (some ⟨gq1, 0, none⟩)), (17, .slice A_l l.length c_l), (18, .int .i64 ((l.length : Nat) : Int)), (19, .int .i64 ((k : Nat) : Int))] ∧ mJ = l.length - k ∧ k ≤ l.length ∧ Hp w S0 wJ [rOwn tNeed 90 A9 c9 (needsQ all alive want (l.take k)), rBx gq1 162 [.slice A9 ((needsQ all alive want (l.take k)).length) c9, .func (.func 126) #[] #[]]]) ⟨0, none, 0, rfl, rfl, Nat.zero_le _, (H1.rm s2)⟩ rfl ?_
 rintro _ _ w2 ⟨k, A9, c9, rfl, rfl, hk, K2⟩
 refine rg <| ev (Ev.lss rfl rfl) <| dn ?_
 refine WP.cond rfl (fun hc20 => ?_) (fun hc20 => ?_)
 ·
  replace hc20 := of_decide_eq_true hc20
  refine WP.skip (Pst.norm ?_)
  refine WP.seq <| WP.block <| rg ?_
  obtain ⟨x1, hx1⟩ := get_some (xs := l) (i := k) (by omega)
  refine ev (Ev.index (i := k) Tryz.underlying23 sz_53 rfl rfl rfl (lt_of_get hx1) ((K2.a h_l).some_ hx1)) ?_
  obtain ⟨B1, d1, hc_1, hi1⟩ := AChunk.op (h_l.row hx1)
  refine ev (Ev.loadRow (cs := [.int .i64 x1.ID, .int .i64 x1.Version, .int .u32 x1.Sum, .slice B1 x1.Holders.length d1]) ag_53 rfl rfl (rowat (fun j u hu => K2.ext.cell (hc_1 j u hu)))) ?_
  refine al (cs := [.int .i64 0, .int .i64 0, .int .u32 0, .slice none 0 0]) zero_53 rfl K2 fun g1 w3 K3 => ?_
  refine stw (ds := [.int .i64 x1.ID, .int .i64 x1.Version, .int .u32 x1.Sum, .slice B1 x1.Holders.length d1]) rfl rfl rfl sz_53 K3 s0 rfl rfl fun w4 K4 => ?_
  refine dn ?_
  have hhx := hh _ (mem_of_get hx1)
  have hql := needsQ_len all alive want (l.take k)
  simp only [List.length_take] at hql
  refine WP.held (fun wS => Hp w S0 wS [rBx g1 53 [.int .i64 x1.ID, .int .i64 x1.Version, .int .u32 x1.Sum, .slice B1 x1.Holders.length d1], rOwn tNeed 90 A9 c9 (needsQ all alive want (l.take k)), rBx gq1 162 [.slice A9 ((needsQ all alive want (l.take k)).length) c9, .func (.func 126) #[] #[]]]) (fun lJ wJ => ∃ (gj1 : Nat), lJ = [(1, .slice A_all all.length c_all), (2, .slice A_alive alive.length c_alive), (3, .int .i64 want), (9, .pointer (some ⟨gq1, 0, none⟩)), (12, .pointer (some ⟨gj1, 0, none⟩)), (17, .slice A_l l.length c_l), (18, .int .i64 ((l.length : Nat) : Int)), (19, .int .i64 ((k : Nat) : Int))] ∧ Hp w S0 wJ [rBx gj1 90 [.int .i64 x1.ID, .int .i64 (((goodL x1 all alive).length : Nat) : Int), .int .i64 (((livL x1 alive).length : Nat) : Int)], rBx g1 53 [.int .i64 x1.ID, .int .i64 x1.Version, .int .u32 x1.Sum, .slice B1 x1.Holders.length d1], rOwn tNeed 90 A9 c9 (needsQ all alive want (l.take k)), rBx gq1 162 [.slice A9 ((needsQ all alive want (l.take k)).length) c9, .func (.func 126) #[] #[]]]) (by kernel_rfl) ?_ ?_
  ·
   have H2 := K4.grow (Ext.refl w4).drew
   refine WH.ns (by kernel_rfl) fun hns => ?_
   refine WH.tn (fuel := 13) 0 (LM 14 1) hns rfl (by kernel_rfl) (fun _ hK => (Ev.field (q := ⟨g1, 0, none⟩) fa_53_0 rfl rfl)) rfl H2 <| WH.tn (fuel := 12) 1 (LM 14 3) hns rfl (by kernel_rfl) (fun _ hK => (Ev.loadBoxCell na_3 rfl (hK.x s0) rfl)) rfl H2 ?_
   refine WH.tn (fuel := 11) 2 (LM 14 7) hns rfl (by kernel_rfl) (fun _ hK => (Ev.loadBox ag_53 rfl rfl (hK.x s0))) rfl H2 <| WH.tn (fuel := 10) 3 (LM 14 15) hns rfl (by kernel_rfl) (fun _ hK => (Ev.move rfl)) rfl H2 ?_
   refine WH.tn (fuel := 9) 4 (LM 14 31) hns rfl (by kernel_rfl) (fun _ hK => (Ev.move rfl)) rfl H2 <| WH.tn (fuel := 8) 7 (LM 14 159) hns rfl (by kernel_rfl) (fun _ hK => (Ev.loadBox ag_53 rfl rfl (hK.x s0))) rfl H2 ?_
   refine WH.tn (fuel := 7) 8 (LM 14 415) hns rfl (by kernel_rfl) (fun _ hK => (Ev.move rfl)) rfl H2 ?_
   refine WH.join (fun lJ wJ => ∃ (A0_10 : Option Addr) (c0_10 : Nat) (g3 : Nat) (A0_5 : Option Addr) (c0_5 : Nat), lJ = [(1, .slice A_all all.length c_all), (2, .slice A_alive alive.length c_alive), (3, .int .i64 want), (9, .pointer (some ⟨gq1, 0, none⟩)), (12, .pointer (some ⟨g3, 0, none⟩)), (17, .slice A_l l.length c_l), (18, .int .i64 ((l.length : Nat) : Int)), (19, .int .i64 ((k : Nat) : Int)), (24, .int .i64 x1.ID), (29, .int .i64 (((goodL x1 all alive).length : Nat) : Int)), (32, .slice A0_10 ((livL x1 alive).length) c0_10)] ∧ Hp w S0 wJ [rOwn tInt 3 A0_10 c0_10 (livL x1 alive), rBx g3 90 [.int .i64 0, .int .i64 0, .int .i64 0], rOwn tInt 3 A0_5 c0_5 (goodL x1 all alive), rBx g1 53 [.int .i64 x1.ID, .int .i64 x1.Version, .int .u32 x1.Sum, .slice B1 x1.Holders.length d1], rOwn tNeed 90 A9 c9 (needsQ all alive want (l.take k)), rBx gq1 162 [.slice A9 ((needsQ all alive want (l.take k)).length) c9, .func (.func 126) #[] #[]]]) 3 (LM 14 5119) ?_ fun hS1 => ?_
   ·
    rintro _ w15 ⟨A0_10, c0_10, g3, A0_5, c0_5, rfl, K15⟩
    have k9 := (((K15.rm s2).rm s1).rm s0)
    refine WH.tn (fuel := 2) 10 (LM 14 6143) hns rfl (by kernel_rfl) (fun _ hK => (Ev.len Tryz.underlying51 rfl)) rfl k9 <| WH.tn (fuel := 1) 11 (LM 14 8191) hns rfl (by kernel_rfl) (fun _ hK => (Ev.build (vs := [(0, .int .i64 x1.ID), (1, .int .i64 (((goodL x1 all alive).length : Nat) : Int)), (2, .int .i64 (((livL x1 alive).length : Nat) : Int))]) (cs := [.int .i64 x1.ID, .int .i64 (((goodL x1 all alive).length : Nat) : Int), .int .i64 (((livL x1 alive).length : Nat) : Int)]) rfl (by apply bl_90_0I_1I_2I))) rfl k9 ?_
    refine WH.one (fuel := 0) 13 (by kernel_rfl) rfl ?_
    refine stw (ds := [.int .i64 x1.ID, .int .i64 (((goodL x1 all alive).length : Nat) : Int), .int .i64 (((livL x1 alive).length : Nat) : Int)]) rfl rfl rfl sz_90 K15 s1 rfl rfl fun w16 K16 => ?_
    have k10 := (((K16.rm s2).rm s1).rm s0)
    refine WH.next k10 ?_
    exact WH.dn ⟨g3, rfl, ((K16.rm s2).rm s1)⟩ rfl (by kernel_rfl)
   refine WH.two (fuel := 6) 5 12 (by kernel_rfl) rfl rfl ?_ ?_
   ·
    refine WL.call rfl rfl rfl cl_27 (qgood_ok _ x1 (H2.a hi1).any (H2.a h_all).any (H2.a h_alive).any hhx (by first | omega | (simp; done) | decide)) rfl ?_
    rintro _ w17 ⟨A0_17, c0_17, rfl, h17⟩
    have K17 := H2.f1 h17
    have hL17_0 := (K17.o s0).len_le
    have k11 := (K17.rm s0)
    refine WH.next k11 <| WH.tn (fuel := 5) 6 (LM 14 511) hns rfl (by kernel_rfl) (fun _ hK => (Ev.len Tryz.underlying51 rfl)) rfl k11 ?_
    refine WH.two (fuel := 4) 9 12 (by kernel_rfl) rfl rfl ?_ ?_
    ·
     refine WL.call rfl rfl rfl cl_69 (qliv_ok _ x1 (K17.a hi1).any (K17.a h_alive).any hhx) rfl ?_
     rintro _ w18 ⟨A0_18, c0_18, rfl, h18⟩
     have K18 := K17.f1 h18
     have hL18_0 := (K18.o s0).len_le
     have k12 := ((K18.rm s1).rm s0)
     refine WH.next k12 <| WH.tn (fuel := 3) 10 (LM 14 2047) hns rfl (by kernel_rfl) (fun _ hK => (Ev.len Tryz.underlying51 rfl)) rfl k12 <| WH.tn (fuel := 2) 11 (LM 14 4095) hns rfl (by kernel_rfl) (fun _ hK => (Ev.build (vs := [(0, .int .i64 x1.ID), (1, .int .i64 (((goodL x1 all alive).length : Nat) : Int)), (2, .int .i64 (((livL x1 alive).length : Nat) : Int))]) (cs := [.int .i64 x1.ID, .int .i64 (((goodL x1 all alive).length : Nat) : Int), .int .i64 (((livL x1 alive).length : Nat) : Int)]) rfl (by apply bl_90_0I_1I_2I))) rfl k12 ?_
     refine WH.one (fuel := 1) 12 (by kernel_rfl) rfl ?_
     refine al (cs := [.int .i64 0, .int .i64 0, .int .i64 0]) zero_90 rfl K18 fun g5 w19 K19 => ?_
     have k13 := (((K19.rm s2).rm s1).rm s0)
     refine WH.next k13 <| WH.one (fuel := 0) 13 (by kernel_rfl) rfl ?_
     refine stw (ds := [.int .i64 x1.ID, .int .i64 (((goodL x1 all alive).length : Nat) : Int), .int .i64 (((livL x1 alive).length : Nat) : Int)]) rfl rfl rfl sz_90 K19 s0 rfl rfl fun w20 K20 => ?_
     have k14 := (((K20.rm s2).rm s1).rm s0)
     refine WH.next k14 ?_
     exact WH.dn ⟨g5, rfl, ((K20.rm s2).rm s1)⟩ rfl (by kernel_rfl)
    ·
     refine al (cs := [.int .i64 0, .int .i64 0, .int .i64 0]) zero_90 rfl K17 fun g6 w21 K21 => ?_
     have k15 := ((K21.rm s1).rm s0)
     refine WH.next k15 <| WH.one (fuel := 3) 9 (by kernel_rfl) rfl <| WL.call rfl rfl rfl cl_69 (qliv_ok _ x1 (K21.a hi1).any (K21.a h_alive).any hhx) rfl ?_
     rintro _ w22 ⟨A0_22, c0_22, rfl, h22⟩
     have K22 := K21.f1 h22
     have hL22_0 := (K22.o s0).len_le
     have k16 := (((K22.rm s2).rm s1).rm s0)
     exact WH.kj hS1 (by kernel_rfl) k16 ⟨A0_22, c0_22, g6, A0_17, c0_17, rfl, K22⟩ rfl
   ·
    refine al (cs := [.int .i64 0, .int .i64 0, .int .i64 0]) zero_90 rfl H2 fun g7 w23 K23 => ?_
    have k17 := (K23.rm s0)
    refine WH.next k17 <| WH.one (fuel := 5) 5 (by kernel_rfl) rfl <| WL.call rfl rfl rfl cl_27 (qgood_ok _ x1 (K23.a hi1).any (K23.a h_all).any (K23.a h_alive).any hhx (by first | omega | (simp; done) | decide)) rfl ?_
    rintro _ w24 ⟨A0_24, c0_24, rfl, h24⟩
    have K24 := K23.f1 h24
    have hL24_0 := (K24.o s0).len_le
    have k18 := ((K24.rm s1).rm s0)
    refine WH.next k18 <| WH.tn (fuel := 4) 6 (LM 14 4607) hns rfl (by kernel_rfl) (fun _ hK => (Ev.len Tryz.underlying51 rfl)) rfl k18 <| WH.one (fuel := 3) 9 (by kernel_rfl) rfl ?_
    refine WL.call rfl rfl rfl cl_69 (qliv_ok _ x1 (K24.a hi1).any (K24.a h_alive).any hhx) rfl ?_
    rintro _ w25 ⟨A0_25, c0_25, rfl, h25⟩
    have K25 := K24.f1 h25
    have hL25_0 := (K25.o s0).len_le
    have k19 := (((K25.rm s2).rm s1).rm s0)
    exact WH.kj hS1 (by kernel_rfl) k19 ⟨A0_25, c0_25, g7, A0_24, c0_24, rfl, (((K25.sel s1).sel s2).sel s2)⟩ rfl
  rintro _ w26 ⟨gj1, rfl, K26⟩
  refine rg <| ev (Ev.field (q := ⟨gj1, 2, none⟩) fa_90_2 rfl rfl) <| ev (Ev.loadBoxCell na_3 rfl (K26.x s0) rfl) <| ev (Ev.gtr rfl rfl) <| mv rfl ?_
  refine WL.cutb 5 43 ((decide (0 < (((livL x1 alive).length : Nat) : Int))) && (decide ((((goodL x1 all alive).length : Nat) : Int) < want))) ?_ ?_
  ·
   cases hb38 : decide (0 < (((livL x1 alive).length : Nat) : Int)) with
   | true =>
    have hb38p := of_decide_eq_true hb38
    refine WL.evg rfl (Ev.field (q := ⟨gj1, 1, none⟩) fa_90_1 rfl rfl) rfl <| WL.evg rfl (Ev.loadBoxCell na_3 rfl (K26.x s0) rfl) rfl <| WL.evg rfl (Ev.move rfl) rfl ?_
    refine WL.evg rfl (Ev.lss rfl rfl) rfl <| ev (Ev.pick_t rfl rfl) ?_
    exact WL.cend rfl
   | false =>
    refine WL.pass rfl rfl rfl <| WL.pass rfl rfl rfl <| WL.pass rfl rfl rfl <| WL.pass rfl rfl rfl <| ev (Ev.pick_f rfl rfl) ?_
    exact WL.cend rfl
  refine dn ?_
  refine WP.cond_end rfl (fun hc43 => ?_) (fun hc43 => ?_)
  ·
   refine rge <| mv rfl <| ev (Ev.loadBox ag_90 rfl rfl (K26.x s0)) <| WL.call rfl rfl rfl cl_79 (qput_ok ((((K26.sel s1).sel s1).sel s2).sel s3) (⟨x1.ID, (((goodL x1 all alive).length : Nat) : Int), (((livL x1 alive).length : Nat) : Int)⟩ : ANeed) (by omega)) rfl ?_
   rintro _ w27 ⟨rfl, Aq1, cq1, K27⟩
   refine dne ?_
   refine Pst.blk_norm (Pst.norm ?_)
   refine rge <| ev (Ev.add rfl rfl (I64.mk (by omega) (by omega))) <| mv rfl <| dne ?_
   have hq4 : (((k + 1 : Nat) : Int) : Int) = (((k + 1) : Nat) : Int) := by simp
   refine Pst.re (t := 19) rfl (congrArg (Value.int .i64) hq4) ?_
   have hq5 : ((putQ (needsQ all alive want (l.take k)) (⟨x1.ID, (((goodL x1 all alive).length : Nat) : Int), (((livL x1 alive).length : Nat) : Int)⟩ : ANeed)) : List ANeed) = (needsQ all alive want (l.take (k + 1))) := by first | exact needs_go hx1 hc43 | exact needs_no hx1 hc43
   rw [hq5] at K27
   exact Pst.ag ⟨(k + 1), Aq1, cq1, rfl, rfl, by omega, ((((K27.rm s3).rm s2).sel s0).sel s1)⟩ rfl (by omega)
  refine WP.skip (Pst.blk_norm (Pst.norm ?_))
  refine rge <| ev (Ev.add rfl rfl (I64.mk (by omega) (by omega))) <| mv rfl <| dne ?_
  have hq6 : (((k + 1 : Nat) : Int) : Int) = (((k + 1) : Nat) : Int) := by simp
  refine Pst.re (t := 19) rfl (congrArg (Value.int .i64) hq6) ?_
  have hq7 : ((needsQ all alive want (l.take k)) : List ANeed) = (needsQ all alive want (l.take (k + 1))) := by first | exact needs_go hx1 hc43 | exact needs_no hx1 hc43
  rw [hq7] at K26
  exact Pst.ag ⟨(k + 1), A9, c9, rfl, rfl, by omega, ((K26.rm s1).rm s0)⟩ rfl (by omega)
 replace hc20 := of_decide_eq_false hc20
 refine WP.exit (Pst.then_exit (Pst.then_exit (Pst.blk_eq (Pst.norm ?_))))
 refine rg <| as_ rfl <| dn <| WP.seq ?_
 have hql := needsQ_len all alive want (l.take k)
 simp only [List.length_take] at hql
 refine rg <| mv rfl <| WL.call rfl rfl rfl cl_80 (qtake_ok ((K2.sel s0).sel s1) (by omega)) rfl ?_
 rintro _ w28 ⟨rfl, K28⟩
 refine mv rfl <| xt rfl rfl <| xt rfl rfl ?_
 refine al (cs := [.int .i64 0, .int .i64 0, .int .i64 0]) zero_90 rfl K28 fun g8 w29 K29 => ?_
 refine stw (ds := [.int .i64 ((takeN (needsQ all alive want (l.take k))).Chunk), .int .i64 ((takeN (needsQ all alive want (l.take k))).Have), .int .i64 ((takeN (needsQ all alive want (l.take k))).Live)]) rfl rfl rfl sz_90 K29 s0 rfl rfl fun w30 K30 => ?_
 refine as_ rfl <| dn <| WP.block ?_
 have H3 := K30.nil tNeed 90
 have H4 := H3.nil tNeed 90
 refine WP.lp (fun mJ lJ wJ => ∃ (A9 : Option Addr) (c9 : Nat) (q : List ANeed) (n : ANeed) (f : Bool) (g14 : Nat) (out : List ANeed) (A13 : Option Addr) (c13 : Nat), lJ = [(9, .pointer (some ⟨gq1, 0, none⟩)), (13, .slice A13 out.length c13), (14, .pointer (some ⟨g14, 0, none⟩)), (15, .bool f)] ∧ mJ = q.length + (if f = true then 1 else 0) ∧ (out ++ (if f = true then n :: drain q.length q else []) = needsL l all alive want) ∧ (q.length + (if f = true then 1 else 0) + out.length ≤ 20000) ∧ Hp w S0 wJ [rOwn tNeed 90 A9 c9 q, rBx gq1 162 [.slice A9 q.length c9, .func (.func 126) #[] #[]], rBx g14 90 [.int .i64 n.Chunk, .int .i64 n.Have, .int .i64 n.Live], rOwn tNeed 90 A13 c13 out]) ⟨A9, c9, (takeL (needsQ all alive want (l.take k))), (takeN (needsQ all alive want (l.take k))), (takeB (needsQ all alive want (l.take k))), g8, ([] : List ANeed), none, 0, rfl, rfl, by rw [List.nil_append, ← drain_step, List.take_of_length_le (by omega)]; rfl, by rw [take_m]; simp only [List.length_nil]; omega, (((((H4.rm s1).sel s0).sel s1).sel s2).sel s3)⟩ rfl ?_
 rintro _ _ w31 ⟨A9, c9, q, n, f, g14, out, A13, c13, rfl, rfl, hdr, hql2, K31⟩
 refine WP.seq <| rg <| mv rfl <| dn ?_
 refine WP.cond_end rfl (fun hc53 => ?_) (fun hc53 => ?_)
 ·
  refine WP.skip (Pst.norm ?_)
  refine WP.seq <| WP.block ?_
  have htm := take_m q
  have hif : (if f = true then 1 else 0 : Nat) = 1 := if_pos hc53
  refine rge <| mv rfl <| ev (Ev.loadBox ag_90 rfl rfl (K31.x s2)) ?_
  refine bs1 (τ := tNeed) (x := n) (vs := [(0, .agg #[.int .i64 n.Chunk, .int .i64 n.Have, .int .i64 n.Live])]) (cs := [.int .i64 n.Chunk, .int .i64 n.Have, .int .i64 n.Live]) rfl (by intro _; apply bs_82_1_III) rfl K31 (fun _ _ => rfl) fun g9 w32 K32 => ?_
  refine ap (xs := out) (ys := ([n] : List ANeed)) K32 s4 rfl rfl (K32.o s0) Tryz.underlying82 ei_90 (by omega) (by simp) rfl fun Ap1 cp1 w33 K33 => ?_
  refine as_ rfl <| dne ?_
  refine Pst.blk_norm (Pst.norm ?_)
  refine WP.seq <| rg <| ev (Ev.loadBox ag_90 rfl rfl (K33.x s4)) <| dn <| rge ?_
  refine al (cs := [.int .i64 0, .int .i64 0, .int .i64 0]) zero_90 rfl K33 fun g10 w34 K34 => ?_
  refine stw (ds := [.int .i64 n.Chunk, .int .i64 n.Have, .int .i64 n.Live]) rfl rfl rfl sz_90 K34 s0 rfl rfl fun w35 K35 => ?_
  refine dne <| Pst.norm <| rge <| mv rfl <| WL.call rfl rfl rfl cl_80 (qtake_ok (((((K35.sel s2).sel s2).sel s2).sel s3).sel s4) (by omega)) rfl ?_
  rintro _ w36 ⟨rfl, K36⟩
  refine mv rfl <| xt rfl rfl <| xt rfl rfl ?_
  refine stw (ds := [.int .i64 ((takeN q).Chunk), .int .i64 ((takeN q).Have), .int .i64 ((takeN q).Live)]) rfl rfl rfl sz_90 K36 s2 rfl rfl fun w37 K37 => ?_
  refine as_ rfl <| dne ?_
  exact Pst.ag ⟨A9, c9, (takeL q), (takeN q), (takeB q), g10, (out ++ ([n] : List ANeed)), Ap1, cp1, rfl, rfl, by rw [← drain_step]; simpa [hc53] using hdr, by rw [take_m]; simp only [List.length_append, List.length_cons, List.length_nil]; omega, (((((K37.rm s5).rm s4).sel s0).sel s1).sel s2)⟩ rfl (by omega)
 refine WP.exit (Pst.then_exit (Pst.then_exit (Pst.blk_eq (Pst.norm ?_))))
 refine rg <| mv rfl <| as_ rfl <| dn ?_
 refine WP.ret (Pst.body_ret rfl rfl rfl ?_)
 have hq8 : (out : List ANeed) = (needsL l all alive want) := by simpa [hc53] using hdr
 have H5 := (hq8 ▸ K31 : Hp w S0 w31 [rOwn tNeed 90 A9 c9 q, rBx gq1 162 [.slice A9 q.length c9, .func (.func 126) #[] #[]], rBx g14 90 [.int .i64 n.Chunk, .int .i64 n.Have, .int .i64 n.Live], rOwn tNeed 90 A13 c13 (needsL l all alive want)])
 exact ⟨A13, c13, by rw [← hq8] <;> rfl, (((H5.rm s2).rm s1).rm s0)⟩

end Go.Proofs.YtjcklpooaaaglaaGreat
