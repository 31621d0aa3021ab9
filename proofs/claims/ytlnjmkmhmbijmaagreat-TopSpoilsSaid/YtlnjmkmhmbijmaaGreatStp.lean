/- Contracts of functions: what each call hands back, and that it leaves all that was there as it was. -/
import Derived.Test.YtlnjmkmhmbijmaaGreatVlt
set_option maxRecDepth 4000
set_option linter.all false
namespace Go.Proofs.YtlnjmkmhmbijmaaGreat
open Go.RowKit
structure AState where
  b : ABallot
  l : List AEntry
  deriving DecidableEq
def AState.enc (x : AState) (B0 : Option Addr) (d0 : Nat) : List Value := [.int .i64 x.b.Term, .int .i64 x.b.Vote, .slice B0 x.l.length d0]
theorem AState.enc_one (x : AState) (B0 : Option Addr) (d0 : Nat) : ∀ u ∈ x.enc B0 d0, u.oneCell' = true := by
  intro u hu
  simp only [AState.enc, List.mem_cons, List.not_mem_nil, or_false] at hu
  rcases hu with rfl | rfl | rfl <;> rfl
def AState.wf (x : AState) : Prop := x.b.wf ∧ (∀ y ∈ x.l, AEntry.wf y)
def tState : Ty AState where
  k := 3
  pos := by decide
  R := fun S w x cs => ∃ (B0 : Option Addr) (d0 : Nat), cs = x.enc B0 d0 ∧ Sl tEntry S w B0 d0 x.l
  len := by rintro S w x cs ⟨B0, d0, rfl, h0⟩; rfl
  one := by rintro S w x cs ⟨B0, d0, rfl, h0⟩; exact AState.enc_one x B0 d0
  keep := by rintro S w w' x cs m ⟨B0, d0, rfl, h0⟩; exact ⟨B0, d0, rfl, h0.keep m⟩
  sub := by rintro S S' w x cs n ⟨B0, d0, rfl, h0⟩; exact ⟨B0, d0, rfl, h0.sub n⟩
  bd := by rintro S w x cs ⟨B0, d0, rfl, h0⟩; exact ⟨B0, d0, rfl, h0.bd⟩
theorem AState.op {S : Nat → Prop} {w : World} {a : Addr} {i : Nat} {x : AState} (h : ∃ cs, tState.R S w x cs ∧ ∀ j u, cs[j]? = some u → w.cell? (a.add (i * 3 + j)) = some u) :
    ∃ (B0 : Option Addr) (d0 : Nat), (∀ j u, (x.enc B0 d0)[j]? = some u → w.cell? (a.add (i * 3 + j)) = some u) ∧ Sl tEntry S w B0 d0 x.l := by
  obtain ⟨cs, ⟨B0, d0, rfl, h0⟩, h9⟩ := h
  exact ⟨B0, d0, h9, h0⟩
theorem stepR_cases {s s' : ABallot × List AEntry} {r : Rec} (h : stepR s r = some s') :
    (r.1 = 1 ∧ r.2.length = 2 ∧ bMayL (balOf r.2) = true ∧ s' = (balOf r.2, s.2)) ∨ (r.1 = 2 ∧ r.2.length = 8 ∧ r.2.getD 0 0 = s.2.length + 1 ∧ lMayL ⟨0, 0, s.2 ++ [entOf r.2]⟩ = true ∧ s' = (s.1, s.2 ++ [entOf r.2])) := by
  unfold stepR at h
  split at h
  · rename_i h1
    split at h
    · rename_i h2; cases h; exact .inl ⟨h1.1, h1.2, h2, rfl⟩
    · cases h
  · split at h
    · rename_i h1
      split at h
      · rename_i h2; cases h; exact .inr ⟨h1.1, h1.2.1, h1.2.2, h2, rfl⟩
      · cases h
    · cases h
theorem bal_at {ns : List Nat} {x y : Int} (hl : ns.length = 2) (hx : (casts ns)[0]? = some x) (hy : (casts ns)[1]? = some y) : (⟨x, y⟩ : ABallot) = balOf ns := by
  match ns, hl with
  | [a, b], _ => simp [casts] at hx hy; subst hx hy; rfl
theorem ent_at {ns : List Nat} {x1 x2 x3 x4 x5 x6 x7 : Int} (hl : ns.length = 8) (h1 : (casts ns)[1]? = some x1) (h2 : (casts ns)[2]? = some x2) (h3 : (casts ns)[3]? = some x3) (h4 : (casts ns)[4]? = some x4) (h5 : (casts ns)[5]? = some x5) (h6 : (casts ns)[6]? = some x6) (h7 : (casts ns)[7]? = some x7) :
    (⟨x1, ⟨x2, x3, x4, x5, x6, x7⟩⟩ : AEntry) = entOf ns := by
  match ns, hl with
  | [a0, a1, a2, a3, a4, a5, a6, a7], _ => simp [casts] at h1 h2 h3 h4 h5 h6 h7; subst h1 h2 h3 h4 h5 h6 h7; rfl
theorem first_at {ns : List Nat} {x : Int} (h : (casts ns)[0]? = some x) : x = ((ns.getD 0 0 : Nat) : Int) := by
  match ns with
  | [] => simp [casts] at h
  | a :: t => simp [casts] at h; subst h; rfl
theorem casts_len (ns : List Nat) : (casts ns).length = ns.length := by simp [casts]

theorem cl_124 : Callable Tryz.prog 124 := fun _ _ => by kernel_rfl
theorem bl_23_0I_1I (a0 : Int) (a1 : Int) : Tryz.prog.built 23 [(0, .int .i64 a0), (1, .int .i64 a1)] = some #[.int .i64 a0, .int .i64 a1] := by kernel_rfl
theorem zero_23 : ∀ w, (zeroValue 23).run Tryz.prog w = .ok (.agg #[.int .i64 0, .int .i64 0]) w := fun _ => by kernel_rfl
theorem bl_66_0I_1I_2I_3I_4I_5I (a0 : Int) (a1 : Int) (a2 : Int) (a3 : Int) (a4 : Int) (a5 : Int) : Tryz.prog.built 66 [(0, .int .i64 a0), (1, .int .i64 a1), (2, .int .i64 a2), (3, .int .i64 a3), (4, .int .i64 a4), (5, .int .i64 a5)] = some #[.int .i64 a0, .int .i64 a1, .int .i64 a2, .int .i64 a3, .int .i64 a4, .int .i64 a5] := by kernel_rfl
theorem bl_68_0I_1A (a0 : Int) (a1_0 : Int) (a1_1 : Int) (a1_2 : Int) (a1_3 : Int) (a1_4 : Int) (a1_5 : Int) : Tryz.prog.built 68 [(0, .int .i64 a0), (1, .agg #[.int .i64 a1_0, .int .i64 a1_1, .int .i64 a1_2, .int .i64 a1_3, .int .i64 a1_4, .int .i64 a1_5])] = some #[.int .i64 a0, .int .i64 a1_0, .int .i64 a1_1, .int .i64 a1_2, .int .i64 a1_3, .int .i64 a1_4, .int .i64 a1_5] := by kernel_rfl
theorem bs_24_1_IIIIIII (a0 : Int) (a1 : Int) (a2 : Int) (a3 : Int) (a4 : Int) (a5 : Int) (a6 : Int) : ∀ w, (Instr.buildSlice 24 1 (List.toArray [(0, .agg #[.int .i64 a0, .int .i64 a1, .int .i64 a2, .int .i64 a3, .int .i64 a4, .int .i64 a5, .int .i64 a6])])).run Tryz.prog w = .ok (.slice (some ⟨w.heap.size, 0, none⟩) 1 1) (w.alloc (.cells (List.toArray [.int .i64 a0, .int .i64 a1, .int .i64 a2, .int .i64 a3, .int .i64 a4, .int .i64 a5, .int .i64 a6]) 68)) := fun _ => by kernel_rfl
theorem bl_26_2S (a0 : Option Addr) (a0n a0c : Nat) : Tryz.prog.built 26 [(2, .slice a0 a0n a0c)] = some #[.int .i64 0, .int .i64 0, .slice a0 a0n a0c] := by kernel_rfl
theorem sz_24 : Size Tryz.prog 24 1 := fun _ => by kernel_rfl
theorem step_ok {b w : World} {S : Nat → Prop} {F : List Res} {kd : Int} {Bf : Option Addr} {df : Nat} {body : List (BitVec 8)} {g_s : Nat} {t0 v0 : Int} {Al : Option Addr} {cl : Nat} {ls : List AEntry} {r : Rec} {q2 : ABallot × List AEntry} (H0 : Hp b S w (rBx g_s 59 [.int .i64 t0, .int .i64 v0, .slice Al ls.length cl] :: rOwn tEntry 68 Al cl ls :: rSl tByte Bf df body :: F)) (hk : kd = (r.1 : Int)) (hbd : body = packL r.2) (hok : okR r) (hst : stepR (⟨t0, v0⟩, ls) r = some q2) :
    Rets Tryz.prog 67 #[.pointer (some ⟨g_s, 0, none⟩), .agg #[.int .i64 kd, .slice Bf body.length df]] w fun v w' => ∃ (A1 : Option Addr) (c1 : Nat), v = .bool true ∧ Hp b S w' (rBx g_s 59 [.int .i64 q2.1.Term, .int .i64 q2.1.Vote, .slice A1 q2.2.length c1] :: rOwn tEntry 68 A1 c1 q2.2 :: F) := by
 refine WP.enter Tryz.func67 rfl Tryz.ntmps67 rfl ?_
 have hbl := (H0.s s2).len_le
 have hll := (H0.o s1).len_le
 have hok3 := hok.2.1
 have hcl := casts_len r.2
 have hcs := stepR_cases hst
 refine rg ?_
 refine bx rfl rfl H0 fun g1 w1 K1 => ?_
 refine as_ rfl <| dn <| rg <| ev (Ev.field (q := ⟨g1, 1, none⟩) fa_38_1 rfl rfl) <| ev (Ev.loadBoxCell na_32 rfl (K1.x s0) rfl) <| WL.call rfl rfl rfl cl_124 (Unpack_ok _ (K1.s s3).any hbd hok.2.2 (by omega)) rfl ?_
 rintro _ w2 ⟨B0_0_2, d0_0_2, B0_1_2, d0_1_2, rfl, h2⟩
 have K2 := K1.f2 h2
 have hL2_0 := (K2.o s0).len_le
 have hL2_1 := (K2.o s1).len_le
 refine mv rfl <| xt rfl rfl <| xt rfl rfl ?_
 refine al zero_128 rfl K2 fun g2 w3 K3 => ?_
 refine stw rfl rfl rfl sz_128 K3 s0 rfl rfl fun w4 K4 => ?_
 refine as_ rfl <| dn <| WP.seq <| rg <| mv rfl <| ev (Ev.neq rfl rfl) <| mv rfl <| WL.evg rfl (Ev.field (q := ⟨g2, 1, none⟩) fa_128_1 rfl rfl) rfl <| WL.evg rfl (Ev.loadBoxCell na_32 rfl (K4.x s0) rfl) rfl ?_
 refine WL.evg rfl (Ev.len Tryz.underlying32 rfl) rfl <| WL.evg rfl (Ev.gtr rfl rfl) rfl <| ev (Ev.pick_f rfl rfl) <| dn ?_
 refine WP.cond_end rfl (fun hc23 => ?_) (fun hc23 => ?_)
 ·
  replace hc23 := of_decide_eq_true hc23
  simp at hc23
 replace hc23 := of_decide_eq_false hc23
 refine WP.skip (Pst.norm ?_)
 refine WP.seq <| rg <| ev (Ev.field (q := ⟨g2, 0, none⟩) fa_128_0 rfl rfl) <| ev (Ev.loadBoxCell na_72 rfl (K4.x s0) rfl) <| as_ rfl <| dn <| WP.block <| rg <| ev (Ev.field (q := ⟨g1, 0, none⟩) fa_38_0 rfl rfl) ?_
 refine ev (Ev.loadBoxCell na_3 rfl (K4.x s3) rfl) <| ev (Ev.eql rfl rfl) <| mv rfl ?_
 refine WL.cutb 4 34 ((decide (kd = 1)) && (decide (((((⟨casts r.2, []⟩ : AFields).N).length : Nat) : Int) = 2))) ?_ ?_
 ·
  cases hb30 : decide (kd = 1) with
  | true =>
   have hb30p := of_decide_eq_true hb30
   refine WL.evg rfl (Ev.move rfl) rfl <| WL.evg rfl (Ev.len Tryz.underlying72 rfl) rfl <| WL.evg rfl (Ev.eql rfl rfl) rfl <| ev (Ev.pick_t rfl rfl) ?_
   exact WL.cend rfl
  | false =>
   refine WL.pass rfl rfl rfl <| WL.pass rfl rfl rfl <| WL.pass rfl rfl rfl <| ev (Ev.pick_f rfl rfl) ?_
   exact WL.cend rfl
 refine as_ rfl <| dn ?_
 refine WP.cond_end rfl (fun hc26 => ?_) (fun hc26 => ?_)
 ·
  try simp only [Bool.and_eq_true, Bool.and_eq_false_imp, decide_eq_true_eq, decide_eq_false_iff_not] at hc26
  obtain ⟨hr1, hr2, hr3, hr4⟩ : r.1 = 1 ∧ r.2.length = 2 ∧ bMayL (balOf r.2) = true ∧ q2 = (balOf r.2, ls) := by
   rcases hcs with h | h
   ·
    exact h
   ·
    exfalso; have h9 := hc26.1; omega
  obtain ⟨x1, hx1⟩ := get_some (xs := (⟨casts r.2, []⟩ : AFields).N) (i := 0) (by show _ < (casts r.2).length; omega)
  obtain ⟨x2, hx2⟩ := get_some (xs := (⟨casts r.2, []⟩ : AFields).N) (i := 1) (by show _ < (casts r.2).length; omega)
  refine He K4 (fun _ K => K) (fun l0 rk lJ wJ => ∃ (gj1 : Nat), lJ = (8, .pointer (some ⟨gj1, 0, none⟩)) :: l0 ∧ Hp b S wJ (rBx gj1 23 [.int .i64 x1, .int .i64 x2] :: rk)) (fun hns H1 => ?_) ?_
  ·
   refine Tm 0 1 hns rfl rfl H1 <| Tn 1 3 hns rfl (fun _ hK => Ev.index (i := 0) Tryz.underlying72 sz_3 rfl rfl rfl (lt_of_get hx1) ((hK.o s1).some_ hx1)) H1 <| Tn 2 7 hns rfl (fun _ hK => Ev.loadCell na_3 rfl ((hK.o s1).flat_cell (j := 0) hx1 rfl)) H1 ?_
   refine Tm 3 15 hns rfl rfl H1 <| Tn 4 31 hns rfl (fun _ hK => Ev.index (i := 1) Tryz.underlying72 sz_3 rfl rfl rfl (lt_of_get hx2) ((hK.o s1).some_ hx2)) H1 <| Tn 5 63 hns rfl (fun _ hK => Ev.loadCell na_3 rfl ((hK.o s1).flat_cell (j := 0) hx2 rfl)) H1 ?_
   refine Tn 6 127 hns rfl (fun _ _ => Ev.build (vs := [(0, .int .i64 x1), (1, .int .i64 x2)]) (cs := [.int .i64 x1, .int .i64 x2]) rfl (by apply bl_23_0I_1I)) H1 ?_
   refine O1 7 rfl ?_
   refine al zero_23 rfl H1 fun g3 w5 K5 => ?_
   have k1 := (K5.rm s0)
   refine WH.next k1 <| O1 8 rfl ?_
   refine stw rfl rfl rfl sz_23 K5 s0 rfl rfl fun w6 K6 => ?_
   have k2 := (K6.rm s0)
   refine WH.next k2 ?_
   exact Dn ⟨g3, rfl, K6⟩ rfl
  rintro _ w7 ⟨gj1, rfl, K7⟩
  refine WP.seq <| rg <| ev (Ev.loadBox ag_23 rfl rfl (K7.x s0)) ?_
  refine C0 K7 rfl rfl rfl cl_18 (bMay_ok (S0 := Any) _ (⟨x1, x2⟩ : ABallot)) fun w8 K8 => ?_
  refine ev (Ev.not rfl) <| dn ?_
  refine WP.cond_end rfl (fun hc44 => ?_) (fun hc44 => ?_)
  ·
   try simp only [Bool.or_eq_true, Bool.or_eq_false_iff, Bool.and_eq_true, Bool.and_eq_false_imp, Bool.not_eq_true', Bool.not_eq_false', decide_eq_true_eq, decide_eq_false_iff_not] at hc44
   rw [bal_at hr2 hx1 hx2, hr3] at hc44; cases hc44
  try simp only [Bool.or_eq_true, Bool.or_eq_false_iff, Bool.and_eq_true, Bool.and_eq_false_imp, Bool.not_eq_true', Bool.not_eq_false', decide_eq_true_eq, decide_eq_false_iff_not] at hc44
  refine WP.skip (Pst.norm ?_)
  refine rge <| mv rfl <| ev (Ev.loadBox ag_23 rfl rfl (K8.x s0)) <| ev (Ev.nilCheck rfl) <| ev (Ev.field (q := ⟨g_s, 0, none⟩) fa_59_0 rfl rfl) ?_
  refine stp rfl rfl rfl sz_23 K8 s5 rfl rfl rfl fun w9 K9 => ?_
  refine dne ?_
  refine Pst.blk_norm (Pst.norm ?_)
  refine rg <| as_ rfl <| dn ?_
  refine WP.ret (Pst.body_ret rfl rfl rfl ?_)
  have hq1 : (x1 : Int) = q2.1.Term := by rw [hr4, ← bal_at hr2 hx1 hx2]
  have hq2 : (x2 : Int) = q2.1.Vote := by rw [hr4, ← bal_at hr2 hx1 hx2]
  have hq3 : (ls : List AEntry) = q2.2 := by rw [hr4, ← bal_at hr2 hx1 hx2]
  exact ⟨Al, cl, rfl, by rw [← hq1, ← hq2, ← hq3]; exact ((((((K9.rm s7).rm s5).rm s4).rm s3).rm s2).rm s1)⟩
 try simp only [Bool.and_eq_true, Bool.and_eq_false_imp, decide_eq_true_eq, decide_eq_false_iff_not] at hc26
 obtain ⟨hr1, hr2, hr3, hr4, hr5⟩ : r.1 = 2 ∧ r.2.length = 8 ∧ r.2.getD 0 0 = ls.length + 1 ∧ lMayL ⟨0, 0, ls ++ [entOf r.2]⟩ = true ∧ q2 = (⟨t0, v0⟩, ls ++ [entOf r.2]) := by
  rcases hcs with h | h
  ·
   exact absurd (show (((casts r.2).length : Nat) : Int) = 2 by omega) (hc26 (by omega))
  ·
   exact h
 have hls := may_len hr4
 simp only [List.length_append, List.length_cons, List.length_nil] at hls
 refine WP.draw (by kernel_rfl) (by kernel_rfl) <| WQ.ev (Ev.field (q := ⟨g1, 0, none⟩) fa_38_0 rfl rfl) rfl <| WQ.ev (Ev.loadBoxCell na_3 rfl (K4.x s3) rfl) rfl ?_
 refine WQ.ev (Ev.eql rfl rfl) rfl <| WQ.ev (Ev.move rfl) rfl ?_
 refine WQ.cutb 4 57 ((decide (kd = 2)) && (decide (((((⟨casts r.2, []⟩ : AFields).N).length : Nat) : Int) = 8))) ?_ ?_
 ·
  cases hb53 : decide (kd = 2) with
  | true =>
   have hb53p := of_decide_eq_true hb53
   refine WQ.evg rfl (Ev.move rfl) rfl <| WQ.evg rfl (Ev.len Tryz.underlying72 rfl) rfl <| WQ.evg rfl (Ev.eql rfl rfl) rfl <| WQ.ev (Ev.pick_t rfl rfl) rfl ?_
   exact WQ.cend rfl
  | false =>
   refine WQ.pass rfl rfl rfl <| WQ.pass rfl rfl rfl <| WQ.pass rfl rfl rfl <| WQ.ev (Ev.pick_f rfl rfl) rfl ?_
   exact WQ.cend rfl
 refine WQ.ev (Ev.move rfl) rfl ?_
 refine WQ.cutb 11 69 true ?_ ?_
 ·
  cases hb58 : ((decide (kd = 2)) && (decide (((((⟨casts r.2, []⟩ : AFields).N).length : Nat) : Int) = 8))) with
  | true =>
   have hb58p := hb58
   try simp only [Bool.and_eq_true, Bool.and_eq_false_imp, decide_eq_true_eq, decide_eq_false_iff_not] at hb58p
   refine WQ.evg rfl (Ev.move rfl) rfl ?_
   obtain ⟨x3, hx3⟩ := get_some (xs := (⟨casts r.2, []⟩ : AFields).N) (i := 0) (by show _ < (casts r.2).length; omega)
   refine WQ.evg rfl (Ev.index (i := 0) Tryz.underlying72 sz_3 rfl rfl rfl (lt_of_get hx3) ((K4.o s1).some_ hx3)) rfl <| WQ.evg rfl (Ev.loadCell na_3 rfl ((K4.o s1).flat_cell (j := 0) hx3 rfl)) rfl ?_
   refine WQ.evg rfl (Ev.move rfl) rfl <| WQ.evg rfl (Ev.nilCheck rfl) rfl <| WQ.evg rfl (Ev.field (q := ⟨g_s, 2, none⟩) fa_59_1 rfl rfl) rfl <| WQ.evg rfl (Ev.loadBoxCell na_24 rfl (K4.x s4) rfl) rfl ?_
   refine WQ.evg rfl (Ev.len Tryz.underlying24 rfl) rfl <| WQ.evg rfl (Ev.add rfl rfl (I64.mk (by omega) (by omega))) rfl <| WQ.evg rfl (Ev.eql rfl rfl) rfl <| WQ.ev (Ev.pick_t rfl rfl) rfl ?_
   refine WQ.re (t := 69) (u := .bool (decide (x3 = ((ls.length + 1 : Nat) : Int)))) (v := .bool true) rfl (congrArg Value.bool (by refine decide_eq_true ?_; have h9 := first_at hx3; rw [hr3] at h9; omega)) ?_
   exact WQ.cend rfl
  | false =>
   refine WQ.pass rfl rfl rfl <| WQ.pass rfl rfl rfl <| WQ.pass rfl rfl rfl <| WQ.pass rfl rfl rfl <| WQ.pass rfl rfl rfl <| WQ.pass rfl rfl rfl <| WQ.pass rfl rfl rfl ?_
   refine WQ.pass rfl rfl rfl <| WQ.pass rfl rfl rfl <| WQ.pass rfl rfl rfl <| WQ.ev (Ev.pick_f rfl rfl) rfl <| WQ.re (t := 69) (u := .bool false) (v := .bool true) rfl (congrArg Value.bool (by exfalso; simp only [Bool.and_eq_false_imp, decide_eq_true_eq, decide_eq_false_iff_not] at hb58; exact hb58 (by omega) (show (((casts r.2).length : Nat) : Int) = 8 by omega))) ?_
   exact WQ.cend rfl
 refine WQ.ev (Ev.assign rfl) rfl ?_
 refine WQ.done fun w10 e10 => ?_
 have K10 := K4.grow e10
 refine WP.cond_end rfl (fun _h => ?_) (fun _h => absurd _h (by decide))
 obtain ⟨x4, hx4⟩ := get_some (xs := (⟨casts r.2, []⟩ : AFields).N) (i := 1) (by show _ < (casts r.2).length; omega)
 obtain ⟨x5, hx5⟩ := get_some (xs := (⟨casts r.2, []⟩ : AFields).N) (i := 2) (by show _ < (casts r.2).length; omega)
 obtain ⟨x6, hx6⟩ := get_some (xs := (⟨casts r.2, []⟩ : AFields).N) (i := 3) (by show _ < (casts r.2).length; omega)
 obtain ⟨x7, hx7⟩ := get_some (xs := (⟨casts r.2, []⟩ : AFields).N) (i := 4) (by show _ < (casts r.2).length; omega)
 obtain ⟨x8, hx8⟩ := get_some (xs := (⟨casts r.2, []⟩ : AFields).N) (i := 5) (by show _ < (casts r.2).length; omega)
 obtain ⟨x9, hx9⟩ := get_some (xs := (⟨casts r.2, []⟩ : AFields).N) (i := 6) (by show _ < (casts r.2).length; omega)
 obtain ⟨x10, hx10⟩ := get_some (xs := (⟨casts r.2, []⟩ : AFields).N) (i := 7) (by show _ < (casts r.2).length; omega)
 refine He K10 (fun _ K => (K.rm s5)) (fun l0 rk lJ wJ => ∃ (Aj1 : Option Addr) (cj1 : Nat), lJ = (9, .slice Aj1 ((ls ++ ([(⟨x4, x5, x6, x7, x8, x9, x10⟩ : AEntry)] : List AEntry)).length) cj1) :: l0 ∧ Hp b S wJ (rOwn tEntry 68 Aj1 cj1 (ls ++ ([(⟨x4, x5, x6, x7, x8, x9, x10⟩ : AEntry)] : List AEntry)) :: rk)) (fun hns H2 => ?_) ?_
 ·
  have k3 := (H2.rm s5)
  refine Tm 0 1 hns rfl rfl k3 <| Tn 1 3 hns rfl (fun _ _ => Ev.nilCheck rfl) k3 <| Tn 2 7 hns rfl (fun _ _ => Ev.field (q := ⟨g_s, 2, none⟩) fa_59_1 rfl rfl) k3 ?_
  refine Tn 3 15 hns rfl (fun _ hK => Ev.loadBoxCell na_24 rfl (hK.x s4) rfl) k3 <| Tm 4 31 hns rfl rfl k3 <| Tn 5 63 hns rfl (fun _ hK => Ev.index (i := 1) Tryz.underlying72 sz_3 rfl rfl rfl (lt_of_get hx4) ((hK.o s1).some_ hx4)) k3 ?_
  refine Tn 6 127 hns rfl (fun _ hK => Ev.loadCell na_3 rfl ((hK.o s1).flat_cell (j := 0) hx4 rfl)) k3 <| Tm 7 255 hns rfl rfl k3 <| Tn 8 511 hns rfl (fun _ hK => Ev.index (i := 2) Tryz.underlying72 sz_3 rfl rfl rfl (lt_of_get hx5) ((hK.o s1).some_ hx5)) k3 ?_
  refine Tn 9 1023 hns rfl (fun _ hK => Ev.loadCell na_3 rfl ((hK.o s1).flat_cell (j := 0) hx5 rfl)) k3 <| Tm 10 2047 hns rfl rfl k3 <| Tn 11 4095 hns rfl (fun _ hK => Ev.index (i := 3) Tryz.underlying72 sz_3 rfl rfl rfl (lt_of_get hx6) ((hK.o s1).some_ hx6)) k3 ?_
  refine Tn 12 8191 hns rfl (fun _ hK => Ev.loadCell na_3 rfl ((hK.o s1).flat_cell (j := 0) hx6 rfl)) k3 <| Tm 13 16383 hns rfl rfl k3 <| Tn 14 32767 hns rfl (fun _ hK => Ev.index (i := 4) Tryz.underlying72 sz_3 rfl rfl rfl (lt_of_get hx7) ((hK.o s1).some_ hx7)) k3 ?_
  refine Tn 15 65535 hns rfl (fun _ hK => Ev.loadCell na_3 rfl ((hK.o s1).flat_cell (j := 0) hx7 rfl)) k3 <| Tm 16 131071 hns rfl rfl k3 <| Tn 17 262143 hns rfl (fun _ hK => Ev.index (i := 5) Tryz.underlying72 sz_3 rfl rfl rfl (lt_of_get hx8) ((hK.o s1).some_ hx8)) k3 ?_
  refine Tn 18 524287 hns rfl (fun _ hK => Ev.loadCell na_3 rfl ((hK.o s1).flat_cell (j := 0) hx8 rfl)) k3 <| Tm 19 1048575 hns rfl rfl k3 <| Tn 20 2097151 hns rfl (fun _ hK => Ev.index (i := 6) Tryz.underlying72 sz_3 rfl rfl rfl (lt_of_get hx9) ((hK.o s1).some_ hx9)) k3 ?_
  refine Tn 21 4194303 hns rfl (fun _ hK => Ev.loadCell na_3 rfl ((hK.o s1).flat_cell (j := 0) hx9 rfl)) k3 <| Tm 22 8388607 hns rfl rfl k3 <| Tn 23 16777215 hns rfl (fun _ hK => Ev.index (i := 7) Tryz.underlying72 sz_3 rfl rfl rfl (lt_of_get hx10) ((hK.o s1).some_ hx10)) k3 ?_
  refine Tn 24 33554431 hns rfl (fun _ hK => Ev.loadCell na_3 rfl ((hK.o s1).flat_cell (j := 0) hx10 rfl)) k3 <| Tn 25 67108863 hns rfl (fun _ _ => Ev.build (vs := [(0, .int .i64 x5), (1, .int .i64 x6), (2, .int .i64 x7), (3, .int .i64 x8), (4, .int .i64 x9), (5, .int .i64 x10)]) (cs := [.int .i64 x5, .int .i64 x6, .int .i64 x7, .int .i64 x8, .int .i64 x9, .int .i64 x10]) rfl (by apply bl_66_0I_1I_2I_3I_4I_5I)) k3 ?_
  refine Tn 26 134217727 hns rfl (fun _ _ => Ev.build (vs := [(0, .int .i64 x4), (1, .agg #[.int .i64 x5, .int .i64 x6, .int .i64 x7, .int .i64 x8, .int .i64 x9, .int .i64 x10])]) (cs := [.int .i64 x4, .int .i64 x5, .int .i64 x6, .int .i64 x7, .int .i64 x8, .int .i64 x9, .int .i64 x10]) rfl (by apply bl_68_0I_1A)) k3 ?_
  refine O1 27 rfl ?_
  refine bs1 (τ := tEntry) (x := (⟨x4, x5, x6, x7, x8, x9, x10⟩ : AEntry)) rfl (by intro _; apply bs_24_1_IIIIIII) rfl H2 (fun _ _ => rfl) fun g4 w11 K11 => ?_
  have k4 := ((K11.rm s6).rm s0)
  refine WH.next k4 <| O1 28 rfl ?_
  refine ap (ys := ([(⟨x4, x5, x6, x7, x8, x9, x10⟩ : AEntry)] : List AEntry)) K11 s6 rfl rfl (K11.o s0) Tryz.underlying24 ei_68 (by omega) (by exact Nat.le_of_ble_eq_true rfl) rfl fun Ap1 cp1 w12 K12 => ?_
  have k5 := ((K12.rm s1).rm s0)
  refine WH.next k5 <| Ta 29 1073741823 hns rfl rfl k5 ?_
  exact Dn ⟨Ap1, cp1, rfl, (K12.rm s1)⟩ rfl
 rintro _ w13 ⟨Aj1, cj1, rfl, K13⟩
 refine WP.seq <| rg <| mv rfl <| ev (Ev.build (vs := [(2, .slice Aj1 ((ls ++ ([(⟨x4, x5, x6, x7, x8, x9, x10⟩ : AEntry)] : List AEntry)).length) cj1)]) (cs := [.int .i64 0, .int .i64 0, .slice Aj1 ((ls ++ ([(⟨x4, x5, x6, x7, x8, x9, x10⟩ : AEntry)] : List AEntry)).length) cj1]) rfl (by apply bl_26_2S)) ?_
 refine C0 K13 rfl rfl rfl cl_19 (lMay_ok _ (⟨0, 0, (ls ++ ([(⟨x4, x5, x6, x7, x8, x9, x10⟩ : AEntry)] : List AEntry))⟩ : ALog) (K13.o s0)) fun w14 K14 => ?_
 refine ev (Ev.not rfl) <| dn ?_
 refine WP.cond_end rfl (fun hc102 => ?_) (fun hc102 => ?_)
 ·
  try simp only [Bool.or_eq_true, Bool.or_eq_false_iff, Bool.and_eq_true, Bool.and_eq_false_imp, Bool.not_eq_true', Bool.not_eq_false', decide_eq_true_eq, decide_eq_false_iff_not] at hc102
  rw [ent_at hr2 hx4 hx5 hx6 hx7 hx8 hx9 hx10, hr4] at hc102; cases hc102
 try simp only [Bool.or_eq_true, Bool.or_eq_false_iff, Bool.and_eq_true, Bool.and_eq_false_imp, Bool.not_eq_true', Bool.not_eq_false', decide_eq_true_eq, decide_eq_false_iff_not] at hc102
 refine WP.skip (Pst.norm ?_)
 refine rge <| mv rfl <| mv rfl <| ev (Ev.nilCheck rfl) <| ev (Ev.field (q := ⟨g_s, 2, none⟩) fa_59_1 rfl rfl) ?_
 refine stc rfl rfl rfl sz_24 K14 s5 rfl fun w15 K15 => ?_
 refine dne ?_
 refine Pst.blk_norm (Pst.norm ?_)
 refine rg <| as_ rfl <| dn ?_
 refine WP.ret (Pst.body_ret rfl rfl rfl ?_)
 have hq4 : (t0 : Int) = q2.1.Term := by rw [hr5]
 have hq5 : (v0 : Int) = q2.1.Vote := by rw [hr5]
 have hq6 : ((ls ++ ([(⟨x4, x5, x6, x7, x8, x9, x10⟩ : AEntry)] : List AEntry)) : List AEntry) = q2.2 := by rw [hr5, ent_at hr2 hx4 hx5 hx6 hx7 hx8 hx9 hx10]
 exact ⟨Aj1, cj1, rfl, by rw [← hq4, ← hq5, ← hq6]; exact (((((K15.rm s6).rm s5).rm s4).rm s3).rm s2)⟩

end Go.Proofs.YtlnjmkmhmbijmaaGreat
