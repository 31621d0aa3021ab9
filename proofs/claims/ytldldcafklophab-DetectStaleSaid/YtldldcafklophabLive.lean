/- Contracts of functions: what each call hands back, and that it leaves all that was there as it was. -/
import Derived.Test.YtldldcafklophabDet
import Derived.Test.YtldldcafklophabM6
set_option maxRecDepth 4000
set_option linter.all false
namespace Go.Proofs.Ytldldcafklophab
open Go.RowKit

def tillL (b : ABeat) (limit : Int) : Int := b.At + (if (1099511627776 : Int) < (if 0 > limit then 0 else limit) then 1099511627776 else (if 0 > limit then 0 else limit))
def livB (now limit : Int) (b : ABeat) : Bool := decide (now ≤ tillL b limit)
def livL (l : List ABeat) (now limit : Int) : List ABeat := (bFair l).filter (livB now limit)
theorem bRise_may : ∀ (l : List ABeat) (z : Int), bRise z l = true → ∀ b ∈ l, bMay b = true
  | [], _, _, b, hb => by simp at hb
  | c :: l, z, h, b, hb => by
    simp only [bRise, Bool.and_eq_true] at h
    rcases List.mem_cons.1 hb with rfl | hb
    · exact h.1.1
    · exact bRise_may l _ h.2 b hb
theorem bFair_at {l : List ABeat} {b : ABeat} (hb : b ∈ bFair l) : 1 ≤ b.Node ∧ b.Node ≤ 16 ∧ 0 ≤ b.At ∧ b.At ≤ 1099511627776 := by
  unfold bFair at hb; split at hb
  · rename_i h; have := bRise_may l 0 h b hb; simp only [bMay, Bool.and_eq_true, decide_eq_true_eq] at this; exact ⟨this.1.1.1, this.1.1.2, this.1.2, this.2⟩
  · simp at hb
theorem filter_snoc {α : Type} {p : α → Bool} {l : List α} {k : Nat} {x : α} (hx : l[k]? = some x) : (l.take (k + 1)).filter p = (l.take k).filter p ++ (if p x = true then [x] else []) := by
  rw [take_snoc hx, List.filter_append]; simp only [List.filter_cons, List.filter_nil]
theorem filter_pre {α : Type} {p : α → Bool} {l : List α} {k : Nat} {x : α} (hx : l[k]? = some x) (hp : p x = true) : (l.take k).filter p ++ [x] <+: l.filter p := by
  refine ⟨(l.drop (k + 1)).filter p, ?_⟩
  have h1 := filter_snoc (p := p) hx
  rw [if_pos hp] at h1
  rw [← h1, ← List.filter_append, List.take_append_drop]

theorem na_36 : NotAgg Try.prog 36 := fun _ => by kernel_rfl
theorem cl_24 : Callable Try.prog 24 := fun _ _ => by kernel_rfl
theorem zero_4 : ∀ w, (zeroValue 4).run Try.prog w = .ok (.bool false) w := fun _ => by kernel_rfl
theorem cl_23 : Callable Try.prog 23 := fun _ _ => by kernel_rfl
theorem cl_38 : Callable Try.prog 38 := fun _ _ => by kernel_rfl
theorem sz_4 : Size Try.prog 4 1 := fun _ => by kernel_rfl
theorem na_4 : NotAgg Try.prog 4 := fun _ => by kernel_rfl
theorem zero_3 : ∀ w, (zeroValue 3).run Try.prog w = .ok (.int .i64 0) w := fun _ => by kernel_rfl
theorem till_ok {S0 : Nat → Prop} (w : World) (b : ABeat) (limit : Int) (hA : 0 ≤ b.At ∧ b.At ≤ 1099511627776) :
    Rets Try.prog 24 #[.agg #[.int .i64 b.Node, .int .i64 b.At], .int .i64 limit] w fun v w' => v = .int .i64 (tillL b limit) ∧ Hp w S0 w' [] := by
 refine WP.enter Try.func24 rfl Try.ntmps24 rfl ?_
 have H0 := Hp.init w S0
 refine rg ?_
 refine bx (cs := [.int .i64 b.Node, .int .i64 b.At]) rfl rfl H0 fun g1 w1 K1 => ?_
 refine as_ rfl <| dn <| rg <| ev (Ev.field (q := ⟨g1, 1, none⟩) fa_53_1 rfl rfl) <| ev (Ev.loadBoxCell na_3 rfl (K1.x s0) rfl) <| mv rfl <| ev (Ev.max2 rfl rfl) ?_
 refine ev (Ev.min2 rfl rfl) <| ev (Ev.add rfl rfl (I64.mk (by split <;> (try split) <;> omega) (by split <;> (try split) <;> omega))) <| as_ rfl <| dn ?_
 refine WP.ret (Pst.body_ret rfl rfl rfl ?_)
 have hq1 : (b.At + (if 1099511627776 < (if 0 > limit then 0 else limit) then 1099511627776 else (if 0 > limit then 0 else limit)) : Int) = (tillL b limit) := by rfl
 exact ⟨by rw [hq1] <;> rfl, (K1.rm s0)⟩

theorem living1_iter {b : World} {S : Nat → Prop} {gl gn gt : Nat} {A_l : Option Addr} {c_l : Nat} {l : List ABeat} {now limit : Int} (hn : l.length ≤ 800000) :
    Iter Try.prog 38 [.pointer (some ⟨gl, 0, none⟩), .pointer (some ⟨gn, 0, none⟩), .pointer (some ⟨gt, 0, none⟩)] (fun (x : ABeat) => [.agg #[.int .i64 x.Node, .int .i64 x.At]]) (livL l now limit) b S [rBx gl 36 [.slice A_l l.length c_l], rBx gn 3 [.int .i64 now], rBx gt 3 [.int .i64 limit], rSl tBeat A_l c_l l] := by
 intro lr Jf Jx w F0 H0 h0 hY
 refine WP.enterI Try.func38 rfl Try.ntmps38 rfl ?_
 have K0 := Hp.comm (F := F0) H0
 have hf := bFair_len l
 refine rg <| ev (Ev.loadBoxCell na_36 rfl (K0.x s0) rfl) <| WL.call rfl rfl rfl cl_19 (dfair_ok _ (K0.s s3).any (by first | omega | (simp; done) | decide)) rfl ?_
 rintro _ w1 ⟨A0_1, c0_1, rfl, h1⟩
 have K1 := K0.f1 h1
 have hL1_0 := (K1.o s0).len_le
 refine ev (Ev.len Try.underlying36 rfl) <| mv rfl <| dn <| WP.block ?_
 have hq1 : (0 : Int) = ((0 : Nat) : Int) := by simp
 refine WP.re (t := 10) rfl (congrArg (Value.int .i64) hq1) <| WP.lp (fun mJ lJ wJ => ∃ (k : Nat) (F : List Res), lJ = [(0, .func (.yield lr) #[] #[]), (2, .pointer (some ⟨gn, 0, none⟩)), (3, .pointer (some ⟨gt, 0, none⟩)), (8, .slice A0_1 ((bFair l).length) c0_1), (9, .int .i64 (((bFair l).length : Nat) : Int)), (10, .int .i64 ((k : Nat) : Int))] ∧ mJ = (bFair l).length - k ∧ k ≤ (bFair l).length ∧ (Jf (((bFair l).take k).filter (livB now limit)) F) ∧ Hp b S wJ (rOwn tBeat 53 A0_1 c0_1 (bFair l) :: rBx gl 36 [.slice A_l l.length c_l] :: rBx gn 3 [.int .i64 now] :: rBx gt 3 [.int .i64 limit] :: rSl tBeat A_l c_l l :: F)) ⟨0, F0, rfl, rfl, Nat.zero_le _, by simpa using h0, K1⟩ rfl ?_
 rintro _ _ w2 ⟨k, F, rfl, rfl, hk, hJt, K2⟩
 refine rg <| ev (Ev.lss rfl rfl) <| dn ?_
 refine WP.cond rfl (fun hc11 => ?_) (fun hc11 => ?_)
 ·
  replace hc11 := of_decide_eq_true hc11
  refine WP.skip (Pst.norm ?_)
  refine WP.seq <| WP.block <| rg ?_
  obtain ⟨x1, hx1⟩ := get_some (xs := bFair l) (i := k) (by omega)
  refine ev (Ev.index (i := k) Try.underlying36 sz_53 rfl rfl rfl (lt_of_get hx1) ((K2.o s0).some_ hx1)) <| ev (Ev.loadRow ag_53 rfl rfl ((K2.o s0).flat_row hx1)) ?_
  refine al (cs := [.int .i64 0, .int .i64 0]) zero_53 rfl K2 fun g1 w3 K3 => ?_
  refine stw (ds := [.int .i64 x1.Node, .int .i64 x1.At]) rfl rfl rfl sz_53 K3 s0 rfl rfl fun w4 K4 => ?_
  refine dn <| WP.dr (by kernel_rfl) ?_
  have H1 := K4.grow (Ext.refl w4).drew
  refine WI.block (S := fun wK => Hp b S wK (rBx g1 53 [.int .i64 x1.Node, .int .i64 x1.At] :: rOwn tBeat 53 A0_1 c0_1 (bFair l) :: rBx gl 36 [.slice A_l l.length c_l] :: rBx gn 3 [.int .i64 now] :: rBx gt 3 [.int .i64 limit] :: rSl tBeat A_l c_l l :: F)) [(0, 14, .int .i64 now), (1, 15, .agg #[.int .i64 x1.Node, .int .i64 x1.At]), (2, 16, .int .i64 limit), (3, 17, .int .i64 (tillL x1 limit)), (4, 18, .bool (decide (now ≤ tillL x1 limit))), (5, 19, .bool (decide (now ≤ tillL x1 limit)))] 5 (List.toArray [true, true, true, true, true, true, false, false, false, false, false]) (by kernel_rfl) rfl rfl rfl ?_ H1 ?_
  ·
   simp only [List.forall_mem_cons, List.not_mem_nil, false_implies, implies_true, and_true]
   refine ⟨?_, ?_, ?_, ?_, ?_, ?_⟩
   ·
    exact ⟨_, rfl, rfl, rfl, rfl, Qi.ev (fun _ hK => (Ev.loadBoxCell na_3 rfl (hK.x s3) rfl))⟩
   ·
    exact ⟨_, rfl, rfl, rfl, rfl, Qi.ev (fun _ hK => (Ev.loadBox ag_53 rfl rfl (hK.x s0)))⟩
   ·
    exact ⟨_, rfl, rfl, rfl, rfl, Qi.ev (fun _ hK => (Ev.loadBoxCell na_3 rfl (hK.x s4) rfl))⟩
   ·
    exact ⟨_, rfl, rfl, rfl, rfl, Qi.call rfl rfl rfl cl_24 (fun _ hK => (till_ok (S0 := Any) _ x1 limit (bFair_at (mem_of_get hx1)).2.2).mono (by rintro _ _ ⟨rfl, hq2⟩; exact ⟨rfl, hK.grow hq2.ext⟩))⟩
   ·
    exact ⟨_, rfl, rfl, rfl, rfl, Qi.ev (fun _ hK => (Ev.leq rfl rfl))⟩
   ·
    exact ⟨_, rfl, rfl, rfl, rfl, Qi.ev (fun _ hK => (Ev.move rfl))⟩
  intro w5 K5
  cases hb19 : decide (now ≤ tillL x1 limit) with
  | true =>
   have hb19p := of_decide_eq_true hb19
   refine WI.block (S := fun wK => Hp b S wK (rBx g1 53 [.int .i64 x1.Node, .int .i64 x1.At] :: rOwn tBeat 53 A0_1 c0_1 (bFair l) :: rBx gl 36 [.slice A_l l.length c_l] :: rBx gn 3 [.int .i64 now] :: rBx gt 3 [.int .i64 limit] :: rSl tBeat A_l c_l l :: F)) [(6, 20, .func (.yield lr) #[] #[]), (7, 21, .agg #[.int .i64 x1.Node, .int .i64 x1.At])] 3 (List.toArray [true, true, true, true, true, true, true, true, false, false, false]) (by kernel_rfl) rfl rfl rfl ?_ K5 ?_
   ·
    simp only [List.forall_mem_cons, List.not_mem_nil, false_implies, implies_true, and_true]
    refine ⟨?_, ?_⟩
    ·
     exact ⟨_, rfl, rfl, rfl, rfl, Qi.evg rfl (fun _ hK => (Ev.move rfl))⟩
    ·
     exact ⟨_, rfl, rfl, rfl, rfl, Qi.evg rfl (fun _ hK => (Ev.loadBox ag_53 rfl rfl (hK.x s0)))⟩
   intro w6 K6
   refine WI.one 8 (by kernel_rfl) rfl ?_
   have hy1 := hY (((bFair l).take k).filter (livB now limit)) x1 _ _ _ hJt (filter_pre hx1 (by exact hb19)) (Hp.comm (F := [rBx g1 53 [.int .i64 x1.Node, .int .i64 x1.At], rOwn tBeat 53 A0_1 c0_1 (bFair l), rBx gl 36 [.slice A_l l.length c_l], rBx gn 3 [.int .i64 now], rBx gt 3 [.int .i64 limit], rSl tBeat A_l c_l l]) K6)
   refine WL.yield rfl rfl rfl hy1 (by rintro e w' (⟨rfl, _⟩ | ⟨rfl, _⟩) <;> exact ⟨_, rfl⟩) rfl rfl rfl ?_
   rintro v w7 (⟨hv, F1, hJ1, K7⟩ | ⟨hv, F1, hJ1, K7⟩)
   ·
    cases hv
    have K7c := Hp.comm (F := F1) K7
    refine WI.nx <| WI.block (S := fun wK => Hp b S wK (rBx g1 53 [.int .i64 x1.Node, .int .i64 x1.At] :: rOwn tBeat 53 A0_1 c0_1 (bFair l) :: rBx gl 36 [.slice A_l l.length c_l] :: rBx gn 3 [.int .i64 now] :: rBx gt 3 [.int .i64 limit] :: rSl tBeat A_l c_l l :: F1)) [(9, 23, .bool false), (10, 24, .bool false)] 0 (List.toArray [true, true, true, true, true, true, true, true, true, true, true]) (by kernel_rfl) rfl rfl rfl ?_ K7c ?_
    ·
     simp only [List.forall_mem_cons, List.not_mem_nil, false_implies, implies_true, and_true]
     refine ⟨?_, ?_⟩
     ·
      exact ⟨_, rfl, rfl, rfl, rfl, Qi.evg rfl (fun _ hK => (Ev.not (b := true) rfl))⟩
     ·
      exact ⟨_, rfl, rfl, rfl, rfl, Qi.ev (fun _ hK => (Ev.pick_t rfl rfl))⟩
    intro w8 K8
    refine WI.dn (by kernel_rfl) ?_
    refine WP.cond_end rfl (fun _h => absurd _h (by decide)) (fun _h => ?_)
    refine WP.skip (Pst.blk_norm (Pst.norm ?_))
    refine rge <| ev (Ev.add rfl rfl (I64.mk (by omega) (by omega))) <| mv rfl <| dne ?_
    have hq2 : (((k + 1 : Nat) : Int) : Int) = (((k + 1) : Nat) : Int) := by simp
    refine Pst.re (t := 10) rfl (congrArg (Value.int .i64) hq2) ?_
    exact Pst.ag ⟨(k + 1), F1, rfl, rfl, by omega, by rw [filter_snoc hx1]; first | (rw [if_pos (show livB now limit x1 = true from hb19)]; assumption) | (rw [if_neg (show ¬ livB now limit x1 = true by rw [show livB now limit x1 = false from hb19]; decide), List.append_nil]; exact hJt), (K8.rm s0)⟩ rfl (by omega)
   ·
    cases hv
    have K7c := Hp.comm (F := F1) K7
    refine WI.nx <| WI.block (S := fun wK => Hp b S wK (rBx g1 53 [.int .i64 x1.Node, .int .i64 x1.At] :: rOwn tBeat 53 A0_1 c0_1 (bFair l) :: rBx gl 36 [.slice A_l l.length c_l] :: rBx gn 3 [.int .i64 now] :: rBx gt 3 [.int .i64 limit] :: rSl tBeat A_l c_l l :: F1)) [(9, 23, .bool true), (10, 24, .bool true)] 0 (List.toArray [true, true, true, true, true, true, true, true, true, true, true]) (by kernel_rfl) rfl rfl rfl ?_ K7c ?_
    ·
     simp only [List.forall_mem_cons, List.not_mem_nil, false_implies, implies_true, and_true]
     refine ⟨?_, ?_⟩
     ·
      exact ⟨_, rfl, rfl, rfl, rfl, Qi.evg rfl (fun _ hK => (Ev.not (b := false) rfl))⟩
     ·
      exact ⟨_, rfl, rfl, rfl, rfl, Qi.ev (fun _ hK => (Ev.pick_t rfl rfl))⟩
    intro w9 K9
    refine WI.dn (by kernel_rfl) ?_
    refine WP.cond_end rfl (fun _h => ?_) (fun _h => absurd _h (by decide))
    exact WP.ret (Pst.blk_ret (Pst.then_ret (Pst.then_ret (Pst.blk_ret (Pst.retI rfl ⟨⟨_, rfl⟩, .inr ⟨_, _, hJ1, ((((((K9.rm s5).rm s4).rm s3).rm s2).rm s1).rm s0)⟩⟩)))))
  | false =>
   have hb19p := of_decide_eq_false hb19
   refine WI.block (S := fun wK => Hp b S wK (rBx g1 53 [.int .i64 x1.Node, .int .i64 x1.At] :: rOwn tBeat 53 A0_1 c0_1 (bFair l) :: rBx gl 36 [.slice A_l l.length c_l] :: rBx gn 3 [.int .i64 now] :: rBx gt 3 [.int .i64 limit] :: rSl tBeat A_l c_l l :: F)) [(6, 20, undef), (7, 21, undef), (8, 22, undef), (9, 23, undef), (10, 24, .bool false)] 0 (List.toArray [true, true, true, true, true, true, true, true, true, true, true]) (by kernel_rfl) rfl rfl rfl ?_ K5 ?_
   ·
    simp only [List.forall_mem_cons, List.not_mem_nil, false_implies, implies_true, and_true]
    refine ⟨?_, ?_, ?_, ?_, ?_⟩
    ·
     exact ⟨_, rfl, rfl, rfl, rfl, Qi.pass rfl rfl⟩
    ·
     exact ⟨_, rfl, rfl, rfl, rfl, Qi.pass rfl rfl⟩
    ·
     exact ⟨_, rfl, rfl, rfl, rfl, Qi.pass rfl rfl⟩
    ·
     exact ⟨_, rfl, rfl, rfl, rfl, Qi.pass rfl rfl⟩
    ·
     exact ⟨_, rfl, rfl, rfl, rfl, Qi.ev (fun _ hK => (Ev.pick_f rfl rfl))⟩
   intro w10 K10
   refine WI.dn (by kernel_rfl) ?_
   refine WP.cond_end rfl (fun _h => absurd _h (by decide)) (fun _h => ?_)
   refine WP.skip (Pst.blk_norm (Pst.norm ?_))
   refine rge <| ev (Ev.add rfl rfl (I64.mk (by omega) (by omega))) <| mv rfl <| dne ?_
   have hq3 : (((k + 1 : Nat) : Int) : Int) = (((k + 1) : Nat) : Int) := by simp
   refine Pst.re (t := 10) rfl (congrArg (Value.int .i64) hq3) ?_
   exact Pst.ag ⟨(k + 1), F, rfl, rfl, by omega, by rw [filter_snoc hx1]; first | (rw [if_pos (show livB now limit x1 = true from hb19)]; assumption) | (rw [if_neg (show ¬ livB now limit x1 = true by rw [show livB now limit x1 = false from hb19]; decide), List.append_nil]; exact hJt), (K10.rm s0)⟩ rfl (by omega)
 replace hc11 := of_decide_eq_false hc11
 exact WP.exit (Pst.then_exit (Pst.then_exit (Pst.blk_eq (Pst.normI (Pst.retI rfl ⟨⟨_, rfl⟩, .inl ⟨_, by rw [List.take_of_length_le (by omega)] at hJt; exact hJt, (((((K2.rm s4).rm s3).rm s2).rm s1).rm s0)⟩⟩)))))

theorem living_ok {S0 : Nat → Prop} (w : World) {A_l : Option Addr} {c_l : Nat} {l : List ABeat} (h_l : Sl tBeat S0 w A_l c_l l) (now : Int) (limit : Int) :
    Rets Try.prog 23 #[.slice A_l l.length c_l, .int .i64 now, .int .i64 limit] w fun v w' => ∃ (g0_0 : Nat) (g0_1 : Nat) (g0_2 : Nat), v = .func (.func 38) #[] #[.pointer (some ⟨g0_0, 0, none⟩), .pointer (some ⟨g0_1, 0, none⟩), .pointer (some ⟨g0_2, 0, none⟩)] ∧ Hp w S0 w' [rBx g0_0 36 [.slice A_l l.length c_l], rBx g0_1 3 [.int .i64 now], rBx g0_2 3 [.int .i64 limit]] := by
 refine WP.enter Try.func23 rfl Try.ntmps23 rfl ?_
 have H0 := Hp.init w S0
 have hb_l := h_l.len_le
 refine rg ?_
 refine bx (cs := [.slice A_l l.length c_l]) rfl rfl H0 fun g1 w1 K1 => ?_
 refine bx (cs := [.int .i64 now]) rfl rfl K1 fun g2 w2 K2 => ?_
 refine bx (cs := [.int .i64 limit]) rfl rfl K2 fun g3 w3 K3 => ?_
 refine as_ rfl <| dn <| rg <| ev (Ev.func rfl) <| as_ rfl <| dn ?_
 refine WP.ret (Pst.body_ret rfl rfl rfl ?_)
 exact ⟨g1, g2, g3, rfl, (((K3.sel s0).sel s1).sel s2)⟩

theorem alive_ok {S0 : Nat → Prop} (w : World) {A_l : Option Addr} {c_l : Nat} {l : List ABeat} (h_l : Sl tBeat S0 w A_l c_l l) (node : Int) (now : Int) (limit : Int) (hn : l.length ≤ 800000) :
    Rets Try.prog 10 #[.slice A_l l.length c_l, .int .i64 node, .int .i64 now, .int .i64 limit] w fun v w' => v = .bool ((livL l now limit).any (fun (y : ABeat) => decide (y.Node = node))) ∧ Hp w S0 w' [] := by
 refine WP.enterM Try.func10 rfl Try.ntmps10 rfl ?_
 have H0 := Hp.init w S0
 have hb_l := h_l.len_le
 refine rg ?_
 refine bx (cs := [.int .i64 node]) rfl rfl H0 fun g1 w1 K1 => ?_
 refine al (cs := [.bool false]) zero_4 rfl K1 fun g2 w2 K2 => ?_
 refine dn <| WP.seq <| rg <| mv rfl <| mv rfl <| mv rfl <| WL.call rfl rfl rfl cl_23 (living_ok _ (K2.a h_l).any now limit) rfl ?_
 rintro _ w3 ⟨g0_0_3, g0_1_3, g0_2_3, rfl, h3⟩
 have K3 := K2.f3 h3
 refine dn <| WP.block ?_
 have H1 := K3.push (K3.a h_l)
 refine WP.range (enc := fun (x : ABeat) => [.agg #[.int .i64 x.Node, .int .i64 x.At]]) (ys := livL l now limit) (F0 := [rBx g2 4 [.bool false], rBx g1 3 [.int .i64 node]]) (G0 := [rBx g0_0_3 36 [.slice A_l l.length c_l], rBx g0_1_3 3 [.int .i64 now], rBx g0_2_3 3 [.int .i64 limit], rSl tBeat A_l c_l l]) rfl cl_38 (living1_iter (by omega)) ((((((H1.sel s0).sel s3).sel s3).sel s3).sel s5).sel s5) (fun _ => rfl) rfl (fun pre F => F = [rBx g2 4 [.bool false], rBx g1 3 [.int .i64 node]] ∧ (∀ y ∈ pre, y.Node ≠ node)) (fun c pre F => (c = .ret ∧ F = [rBx g2 4 [.bool true], rBx g1 3 [.int .i64 node]] ∧ (pre <+: livL l now limit ∧ ∃ y ∈ pre, y.Node = node))) (fun pre x l1 F => ∃ (gm0 : Nat), l1 = [(5, .pointer (some ⟨g1, 0, none⟩)), (8, .pointer (some ⟨g2, 0, none⟩)), (9, .pointer (some ⟨gm0, 0, none⟩))] ∧ F = [rBx gm0 53 [.int .i64 x.Node, .int .i64 x.At], rBx g2 4 [.bool false], rBx g1 3 [.int .i64 node]] ∧ (∀ y ∈ pre, y.Node ≠ node)) ⟨rfl, by simp⟩ ?_ ?_ ?_ ?_
 ·
  rintro lr pre x _ G w4 ⟨rfl, hno⟩ hpre K4
  refine rge ?_
  refine al (cs := [.int .i64 0, .int .i64 0]) zero_53 rfl K4 fun g3 w5 K5 => ?_
  refine stw (ds := [.int .i64 x.Node, .int .i64 x.At]) rfl rfl rfl sz_53 K5 s0 rfl rfl fun w6 K6 => ?_
  refine dne ?_
  exact Pst.ap ⟨g3, rfl, rfl, hno⟩ rfl K6
 ·
  rintro lr pre x _ _ G w7 ⟨gm0, rfl, rfl, hno⟩ hpre K7
  refine WP.block <| rg <| ev (Ev.field (q := ⟨gm0, 0, none⟩) fa_53_0 rfl rfl) <| ev (Ev.loadBoxCell na_3 rfl (K7.x s0) rfl) <| ev (Ev.loadBoxCell na_3 rfl (K7.x s2) rfl) ?_
  refine ev (Ev.eql rfl rfl) <| dn ?_
  refine WP.cond_end rfl (fun hc18 => ?_) (fun hc18 => ?_)
  ·
   replace hc18 := of_decide_eq_true hc18
   refine rg ?_
   refine stc rfl rfl rfl sz_4 K7 s1 rfl fun w8 K8 => ?_
   refine dn ?_
   refine WP.ret (Pst.blk_ret ?_)
   exact Pst.rr ⟨rfl, rfl, by exact ⟨hpre, x, by simp, hc18⟩⟩ (K8.rm s1)
  replace hc18 := of_decide_eq_false hc18
  refine WP.skip (Pst.blk_norm ?_)
  exact Pst.rn ⟨rfl, by intro y hy; rcases List.mem_append.1 hy with h | h; exact hno y h; rw [List.mem_singleton.1 h]; exact hc18⟩ (K7.rm s0)
 ·
  rintro D _ w9 ⟨rfl, hno⟩ K9
  refine Pst.blk_norm (Pst.norm ?_)
  refine rg ?_
  refine stc rfl rfl rfl sz_4 K9 s1 rfl fun w10 K10 => ?_
  refine dn ?_
  refine WP.ret (Pst.retM ((K10.sel s0).sel s1) rfl fun w11 K11 => ⟨_, ⟨_, _, rfl, ⟨_, rfl, loads_cell na_4 (((K11.x s0).cell 0).trans rfl)⟩, rfl⟩, ?_⟩)
  have hq1 : (false : Bool) = ((livL l now limit).any (fun (y : ABeat) => decide (y.Node = node))) := by symm; simp; intro y hy; exact hno y hy
  exact ⟨by rw [← hq1] <;> rfl, ((K11.rm s1).rm s0)⟩
 ·
  rintro D c pre F w12 (⟨rfl, rfl, hin⟩) K12
  refine WP.ret (Pst.blk_ret (Pst.then_ret (Pst.retM K12 rfl fun w13 K13 => ⟨_, ⟨_, _, rfl, ⟨_, rfl, loads_cell na_4 (((K13.x s0).cell 0).trans rfl)⟩, rfl⟩, ?_⟩)))
  have hq2 : (true : Bool) = ((livL l now limit).any (fun (y : ABeat) => decide (y.Node = node))) := by symm; rw [List.any_eq_true]; obtain ⟨⟨t, ht⟩, y, hy, hk⟩ := hin; exact ⟨y, by rw [← ht]; simp [hy], by simp [hk]⟩
  exact ⟨by rw [← hq2] <;> rfl, ((K13.rm s1).rm s0)⟩


def nextF (limit : Int) (s : Int × Bool) (b : ABeat) : Int × Bool := if (!s.2 || decide (tillL b limit + 1 < s.1)) = true then (tillL b limit + 1, true) else s
def nextL (l : List ABeat) (limit : Int) : Int × Bool := l.foldl (nextF limit) (0, false)
theorem nextL_snoc (l : List ABeat) (x : ABeat) (limit : Int) : nextL (l ++ [x]) limit = nextF limit (nextL l limit) x := by simp [nextL]
theorem tillL_bd {b : ABeat} {limit : Int} (h : 0 ≤ b.At ∧ b.At ≤ 1099511627776) : 0 ≤ tillL b limit ∧ tillL b limit ≤ 2199023255552 := by
  unfold tillL; split <;> (try split) <;> omega

theorem next_ok {S0 : Nat → Prop} (w : World) {A_l : Option Addr} {c_l : Nat} {l : List ABeat} (h_l : Sl tBeat S0 w A_l c_l l) (now : Int) (limit : Int) (hn : l.length ≤ 800000) :
    Rets Try.prog 9 #[.slice A_l l.length c_l, .int .i64 now, .int .i64 limit] w fun v w' => v = .tuple #[.int .i64 ((nextL (livL l now limit) limit).1), .bool ((nextL (livL l now limit) limit).2)] ∧ Hp w S0 w' [] := by
 refine WP.enterM Try.func9 rfl Try.ntmps9 rfl ?_
 have H0 := Hp.init w S0
 have hb_l := h_l.len_le
 refine rg ?_
 refine bx (cs := [.int .i64 limit]) rfl rfl H0 fun g1 w1 K1 => ?_
 refine as_ rfl <| as_ rfl <| dn <| rg ?_
 refine al (cs := [.int .i64 0]) zero_3 rfl K1 fun g2 w2 K2 => ?_
 refine al (cs := [.bool false]) zero_4 rfl K2 fun g3 w3 K3 => ?_
 refine stc rfl rfl rfl sz_3 K3 s1 rfl fun w4 K4 => ?_
 refine stc rfl rfl rfl sz_4 K4 s1 rfl fun w5 K5 => ?_
 refine dn <| WP.seq <| rg <| mv rfl <| mv rfl <| ev (Ev.loadBoxCell na_3 rfl (K5.x s2) rfl) <| WL.call rfl rfl rfl cl_23 (living_ok _ (K5.a h_l).any now limit) rfl ?_
 rintro _ w6 ⟨g0_0_6, g0_1_6, g0_2_6, rfl, h6⟩
 have K6 := K5.f3 h6
 refine dn <| WP.block ?_
 have H1 := K6.push (K6.a h_l)
 refine WP.range (enc := fun (x : ABeat) => [.agg #[.int .i64 x.Node, .int .i64 x.At]]) (ys := livL l now limit) (F0 := [rBx g2 3 [.int .i64 0], rBx g3 4 [.bool false], rBx g1 3 [.int .i64 limit]]) (G0 := [rBx g0_0_6 36 [.slice A_l l.length c_l], rBx g0_1_6 3 [.int .i64 now], rBx g0_2_6 3 [.int .i64 limit], rSl tBeat A_l c_l l]) rfl cl_38 (living1_iter (by omega)) (((((((H1.sel s0).sel s3).sel s3).sel s3).sel s6).sel s5).sel s6) (fun _ => rfl) rfl (fun pre F => ∃ (m : Int) (f : Bool), F = [rBx g2 3 [.int .i64 m], rBx g3 4 [.bool f], rBx g1 3 [.int .i64 limit]] ∧ ((m, f) = nextL pre limit)) (fun c pre F => False) (fun pre x l1 F => ∃ (m : Int) (f : Bool) (gm0 : Nat), l1 = [(5, .pointer (some ⟨g1, 0, none⟩)), (8, .pointer (some ⟨g2, 0, none⟩)), (9, .pointer (some ⟨g3, 0, none⟩)), (10, .pointer (some ⟨gm0, 0, none⟩))] ∧ F = [rBx gm0 53 [.int .i64 x.Node, .int .i64 x.At], rBx g2 3 [.int .i64 m], rBx g3 4 [.bool f], rBx g1 3 [.int .i64 limit]] ∧ ((m, f) = nextL pre limit)) ⟨0, false, rfl, by rfl⟩ ?_ ?_ ?_ ?_
 ·
  rintro lr pre x _ G w7 ⟨m, f, rfl, hnx⟩ hpre K7
  refine rge ?_
  refine al (cs := [.int .i64 0, .int .i64 0]) zero_53 rfl K7 fun g4 w8 K8 => ?_
  refine stw (ds := [.int .i64 x.Node, .int .i64 x.At]) rfl rfl rfl sz_53 K8 s0 rfl rfl fun w9 K9 => ?_
  refine dne ?_
  exact Pst.ap ⟨m, f, g4, rfl, rfl, hnx⟩ rfl K9
 ·
  rintro lr pre x _ _ G w10 ⟨m, f, gm0, rfl, rfl, hnx⟩ hpre K10
  have hxm : x ∈ livL l now limit := hpre.subset (by simp)
  have hxa := bFair_at (List.mem_filter.1 hxm).1
  have hxt := tillL_bd (limit := limit) hxa.2.2
  refine WP.block <| rg <| ev (Ev.loadBox ag_53 rfl rfl (K10.x s0)) <| ev (Ev.loadBoxCell na_3 rfl (K10.x s3) rfl) <| WL.call rfl rfl rfl cl_24 (till_ok (S0 := Any) _ x limit hxa.2.2) rfl ?_
  rintro _ w11 ⟨rfl, h11⟩
  have K11 := K10.c0 h11
  refine ev (Ev.add rfl rfl (I64.mk (by omega) (by omega))) <| as_ rfl <| dn <| rg <| ev (Ev.loadBoxCell na_4 rfl (K11.x s2) rfl) <| ev (Ev.not rfl) <| mv rfl ?_
  refine WL.cutb 4 27 ((!f) || (decide (tillL x limit + 1 < m))) ?_ ?_
  ·
   cases hb23 : (!f) with
   | true =>
    refine WL.pass rfl rfl rfl <| WL.pass rfl rfl rfl <| WL.pass rfl rfl rfl <| ev (Ev.pick_t rfl rfl) ?_
    exact WL.cend rfl
   | false =>
    refine WL.evg rfl (Ev.move rfl) rfl <| WL.evg rfl (Ev.loadBoxCell na_3 rfl (K11.x s1) rfl) rfl <| WL.evg rfl (Ev.lss rfl rfl) rfl <| ev (Ev.pick_f rfl rfl) ?_
    exact WL.cend rfl
  refine dn ?_
  refine WP.cond_end rfl (fun hc27 => ?_) (fun hc27 => ?_)
  ·
   refine rge <| mv rfl ?_
   refine stc rfl rfl rfl sz_3 K11 s1 rfl fun w12 K12 => ?_
   refine stc rfl rfl rfl sz_4 K12 s2 rfl fun w13 K13 => ?_
   refine dne <| Pst.blk_norm ?_
   exact Pst.rn ⟨tillL x limit + 1, true, rfl, by rw [nextL_snoc, ← hnx]; unfold nextF; first | (rw [if_pos (by assumption)]) | (rw [if_neg (by rw [Bool.not_eq_true]; assumption)])⟩ (((K13.rm s2).sel s0).sel s1)
  refine WP.skip (Pst.blk_norm ?_)
  exact Pst.rn ⟨m, f, rfl, by rw [nextL_snoc, ← hnx]; unfold nextF; first | (rw [if_pos (by assumption)]) | (rw [if_neg (by rw [Bool.not_eq_true]; assumption)])⟩ (K11.rm s0)
 ·
  rintro D _ w14 ⟨m, f, rfl, hnx⟩ K14
  refine Pst.blk_norm (Pst.norm ?_)
  refine WP.draw (by kernel_rfl) (by kernel_rfl) <| WQ.ev (Ev.loadBoxCell na_3 rfl (K14.x s1) rfl) rfl <| WQ.ev (Ev.loadBoxCell na_4 rfl (K14.x s2) rfl) rfl <| WQ.ev (Ev.assign rfl) rfl ?_
  refine WQ.ev (Ev.assign rfl) rfl ?_
  refine WQ.done fun w15 e15 => ?_
  have K15 := K14.grow e15
  refine WP.ret (Pst.retM K15 rfl fun w16 K16 => ⟨_, ⟨_, _, rfl, rfl, ⟨_, _, rfl, rfl, rfl⟩⟩, ?_⟩)
  have hq1 : (m : Int) = ((nextL (livL l now limit) limit).1) := by rw [← hnx]
  have hq2 : (f : Bool) = ((nextL (livL l now limit) limit).2) := by rw [← hnx]
  exact ⟨by rw [← hq1, ← hq2] <;> rfl, (((K16.rm s2).rm s1).rm s0)⟩
 ·
  rintro D c pre F w h _
  exact h.elim

end Go.Proofs.Ytldldcafklophab
