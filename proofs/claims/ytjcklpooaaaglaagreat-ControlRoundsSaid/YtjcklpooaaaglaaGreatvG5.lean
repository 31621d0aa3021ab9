/- Texts that the statement needs, with short names. -/
import Derived.Test.YtjcklpooaaaglaaGreatvG4
set_option maxRecDepth 4000
set_option linter.all false
namespace Go.Proofs.YtjcklpooaaaglaaGreat
open Go.RowKit
def zx (l : List Int) : Int := (l.find? (fun (x : Int) => !decide (x = 0))).getD 0
theorem abC {l : List Int} {k : Nat} {x : Int} (h : ∀ y ∈ l.take k, y = 0) (hx : l[k]? = some x) (h0 : x ≠ 0) : zx l = x := by
  have hs : l = l.take k ++ x :: l.drop (k + 1) := by
    conv => lhs; rw [← List.take_append_drop k l]
    rw [List.drop_eq_getElem_cons (aC hx), (List.getElem?_eq_some_iff.1 hx).2]
  unfold zx
  rw [hs, List.find?_append, List.find?_eq_none.2 (fun y hy => by simp [h y hy])]
  simp [h0]
theorem abD {l : List Int} (h : ∀ y ∈ l, y = 0) : zx l = 0 := by unfold zx; rw [List.find?_eq_none.2 (fun y hy => by simp [h y hy])]; rfl
def toC (aI : List bP) (a b : ANode) : Int := zx [dP (fJ aI a.ID) (fJ aI b.ID), dP a.ID b.ID]
def I6 (aI : List bP) (a b : ANode) : Int := -(toC aI a b)
theorem sI {aI : List bP} {a b : ANode} : toC aI a b < 0 ↔ fJ aI a.ID < fJ aI b.ID ∨ fJ aI a.ID = fJ aI b.ID ∧ a.ID < b.ID := by
  unfold toC zx
  by_cases h1 : dP (fJ aI a.ID) (fJ aI b.ID) = 0
  · have h2 := ql.1 h1
    by_cases h3 : dP a.ID b.ID = 0
    · have h4 := ql.1 h3
      simp [h1, h3]; omega
    · simp [h1, h3, qB]; omega
  · simp [h1, qB]
    have h2 : fJ aI a.ID ≠ fJ aI b.ID := fun e => h1 (ql.2 e)
    omega
theorem D6 {aI : List bP} {a b : ANode} : toC aI b a = -(toC aI a b) := by
  have h : ∀ x y : Int, dP y x = -(dP x y) := by intro x y; unfold dP; split <;> (try split) <;> (try split) <;> omega
  unfold toC zx
  rw [h (fJ aI a.ID) (fJ aI b.ID), h a.ID b.ID]
  by_cases h1 : dP (fJ aI a.ID) (fJ aI b.ID) = 0
  · by_cases h3 : dP a.ID b.ID = 0 <;> simp [h1, h3]
  · simp [h1]
theorem Qc (x y : Int) : -1 ≤ dP x y ∧ dP x y ≤ 1 := by unfold dP; split <;> (try split) <;> omega
theorem abE (x y : Int) (h1 : -1 ≤ x ∧ x ≤ 1) (h2 : -1 ≤ y ∧ y ≤ 1) : -1 ≤ zx [x, y] ∧ zx [x, y] ≤ 1 := by
  unfold zx
  by_cases a : x = 0
  · by_cases b : y = 0
    · simp [a, b]
    · simp [a, b]; omega
  · simp [a]; omega
open Go.Sort in
theorem U5 (aI : List bP) : SWO (ltOf (toC aI)) := by
  refine ⟨fun x => ?_, fun x y z h1 h2 => ?_, fun x y z h1 h2 => ?_⟩
  · simp only [ltOf, decide_eq_false_iff_not, sI]; omega
  · simp only [ltOf, decide_eq_true_eq, sI] at h1 h2 ⊢; omega
  · simp only [ltOf, decide_eq_false_iff_not, sI] at h1 h2 ⊢; omega
open Go.Sort in
theorem U6 (aI : List bP) : SWO (ltOf (I6 aI)) := by
  have e : ∀ a b, I6 aI a b = toC aI b a := fun a b => D6.symm
  refine ⟨fun x => ?_, fun x y z h1 h2 => ?_, fun x y z h1 h2 => ?_⟩
  · simp only [ltOf, decide_eq_false_iff_not, e, sI]; omega
  · simp only [ltOf, decide_eq_true_eq, e, sI] at h1 h2 ⊢; omega
  · simp only [ltOf, decide_eq_false_iff_not, e, sI] at h1 h2 ⊢; omega
theorem D7 {l : List ANode} (hu : Up ANode.ID l) {x y : ANode} (hx : x ∈ l) (hy : y ∈ l) (h : x.ID = y.ID) : x = y := by
  obtain ⟨i, hi⟩ := List.getElem?_of_mem hx
  obtain ⟨j, hj⟩ := List.getElem?_of_mem hy
  rcases Nat.lt_trichotomy i j with h1 | h1 | h1
  · have := hu.get h1 hi hj; omega
  · subst h1; rw [hi] at hj; cases hj; rfl
  · have := hu.get h1 hj hi; omega
theorem YM {aI : List bP} {l : List ANode} (hu : Up ANode.ID l) : ∀ x ∈ l, ∀ y ∈ l, ¬ toC aI x y < 0 → ¬ toC aI y x < 0 → x = y := by
  intro x hx y hy h1 h2
  rw [sI] at h1 h2
  exact D7 hu hx hy (by omega)
theorem YN {aI : List bP} {l : List ANode} (hu : Up ANode.ID l) : ∀ x ∈ l, ∀ y ∈ l, ¬ I6 aI x y < 0 → ¬ I6 aI y x < 0 → x = y := by
  intro x hx y hy h1 h2
  have e : ∀ a b, I6 aI a b = toC aI b a := fun a b => D6.symm
  rw [e, sI] at h1 h2
  exact D7 hu hx hy (by omega)
instance : Inhabited ANode := ⟨⟨0, 0, 0, 0⟩⟩
def pF (cf : ANode → ANode → Int) (l : List ANode) : List ANode := l.mergeSort fun x y => !decide (cf y x < 0)
def bB (xs ys : List ANode) : List (ANode × ANode) := xs.flatMap fun x => ys.map fun y => (x, y)
theorem RS {xs ys : List ANode} {k j : Nat} {x y : ANode} (hx : xs[k]? = some x) (hy : ys[j]? = some y) : bB (xs.take k) ys ++ (ys.take j).map (fun y => (x, y)) ++ [(x, y)] <+: bB xs ys := by
  have hs : xs = xs.take k ++ x :: xs.drop (k + 1) := by
    conv => lhs; rw [← List.take_append_drop k xs]
    rw [List.drop_eq_getElem_cons (aC hx), (List.getElem?_eq_some_iff.1 hx).2]
  have ht : ys = ys.take j ++ y :: ys.drop (j + 1) := by
    conv => lhs; rw [← List.take_append_drop j ys]
    rw [List.drop_eq_getElem_cons (aC hy), (List.getElem?_eq_some_iff.1 hy).2]
  refine ⟨(ys.drop (j + 1)).map (fun y => (x, y)) ++ bB (xs.drop (k + 1)) ys, ?_⟩
  have h1 : bB xs ys = bB (xs.take k) ys ++ (ys.map (fun y => (x, y)) ++ bB (xs.drop (k + 1)) ys) := by
    conv => lhs; rw [hs]
    simp [bB]
  have h2 : ys.map (fun y => (x, y)) = (ys.take j).map (fun y => (x, y)) ++ (x, y) :: (ys.drop (j + 1)).map (fun y => (x, y)) := by
    conv => lhs; rw [ht]
    simp
  rw [h1, h2]; simp
theorem qH {xs ys : List ANode} {k : Nat} {x : ANode} (hx : xs[k]? = some x) : bB (xs.take (k + 1)) ys = bB (xs.take k) ys ++ ys.map (fun y => (x, y)) := by
  rw [dK hx]; simp [bB]
theorem uJ : kH Tryz.prog 130 := fun _ => by kernel_rfl
theorem qI : aM Tryz.prog 136 := fun _ _ => by kernel_rfl
theorem yL (a0 : Int) (a1 : Int) : ∀ w, (Instr.buildSlice 51 2 (List.toArray [(0, .int .i64 a0), (1, .int .i64 a1)])).run Tryz.prog w = .ok (.slice (some ⟨w.heap.size, 0, none⟩) 2 2) (w.alloc (.cells (List.toArray [.int .i64 a0, .int .i64 a1]) 3)) := fun _ => by kernel_rfl
theorem I7 : aM Tryz.prog 143 := fun _ _ => by kernel_rfl
theorem Qd : ∀ w, (zeroValue 22).run Tryz.prog w = .ok (.slice none 0 0) w := fun _ => by kernel_rfl
theorem ZI : Size Tryz.prog 22 1 := fun _ => by kernel_rfl
theorem lS : kH Tryz.prog 22 := fun _ => by kernel_rfl
theorem U7 : aM Tryz.prog 176 := fun _ _ => by kernel_rfl
theorem abF : aM Tryz.prog 177 := fun _ _ => by kernel_rfl
theorem abG : aM Tryz.prog 178 := fun _ _ => by kernel_rfl
theorem Qe {S0 : Nat → Prop} (w : World) {U8 : an3} {U9 : Nat} {vals : List Int} (Ol : Sl tInt S0 w U8 U9 vals) :
    bY Tryz.prog 143 #[.slice U8 vals.length U9] w fun v w' => v = .int .i64 (zx vals) ∧ Hp w S0 w' [] := by
 refine WP.enter Tryz.func143 Y Tryz.ntmps143 Y ?_
 have H0 := Hp.init w S0
 have aha := Ol.aN
 refine rg <| aR Y <| dn <| rg <| aR Y <| dn <| WP.seq <| rg <| mv Y <| ev (Ev.len Tryz.underlying51 Y) <| mv Y <| dn <| WP.block <| Lp H0 (fun l0 rk mJ lJ wJ => ∃ (k : Nat), lJ = (8, .int .i64 ((k : Nat) : Int)) :: l0 ∧ mJ = vals.length - k ∧ k ≤ vals.length ∧ (∀ y ∈ vals.take k, y = 0) ∧ Hp w S0 wJ rk) ⟨0, Y, Y, Nat.zero_le _, by simp, H0⟩ rfl ?_
 rintro _ _ w1 ⟨k, rfl, rfl, hk, hno, K1⟩
 refine rg <| ev (Ev.lss Y Y) <| dn ?_
 refine WP.cond Y (fun jE => ?_) (fun jE => ?_)
 ·
  replace jE := of_decide_eq_true jE
  refine WP.skip (aA.norm ?_)
  refine WP.seq <| WP.block <| rg ?_
  obtain ⟨x1, hx1⟩ := get_some (xs := vals) (i := k) (by omega)
  refine ev (Ev.index (i := k) Tryz.underlying51 iC Y Y Y (aC hx1) ((K1.a Ol).some_ hx1)) <| ev (Ev.aZ bf Y ((K1.a Ol).aX (j := 0) hx1 Y)) ?_
  refine aR Y <| dn <| rg <| mv Y <| mv Y <| ev (Ev.neq Y Y) <| dn ?_
  refine WP.aG Y (fun fE => ?_) (fun fE => ?_)
  ·
   replace fE := gJ fE
   refine rg <| mv Y <| aR Y <| dn ?_
   refine WP.ret (aA.bW (aA.aP (aA.aP (aA.bW (aA.aP (aA.aD Y Y Y ?_))))))
   have hq1 : (x1 : Int) = (zx vals) := by exact (abC hno hx1 (by omega)).symm
   exact ⟨by rw [← hq1] <;> rfl, K1⟩
  replace fE := gD fE
  refine WP.skip (aA.aS (aA.norm ?_))
  refine eP <| ev (Ev.add Y Y (eX.mk (by omega) (by omega))) <| mv Y <| eT ?_
  exact aA.ag ⟨(k + 1), Y, Y, by omega, by exact gP (q := fun y => y = 0) hno hx1 (by omega), K1⟩ rfl (by omega)
 replace jE := of_decide_eq_false jE
 refine WP.exit (aA.aF (aA.aF (aA.bS (aA.norm ?_))))
 refine rg <| mv Y <| aR Y <| dn ?_
 refine WP.ret (aA.aD Y Y Y ?_)
 have hq2 : (0 : Int) = (zx vals) := by exact (abD (jf hno (by omega))).symm
 exact ⟨by rw [← hq2] <;> rfl, K1⟩
theorem RU {S0 : Nat → Prop} (w : World) (a : ANode) (b : ANode) {rG : Nat} {fC : an3} {fD : Nat} {aI : List bP} (fH : Bx w rG 130 [.slice fC aI.length fD]) (nW : Sl fO S0 w fC fD aI) :
    bY Tryz.prog 177 #[.agg #[.int .i64 a.ID, .int .i64 a.dA, .int .i64 a.fI, .int .i64 a.dz], .agg #[.int .i64 b.ID, .int .i64 b.dA, .int .i64 b.fI, .int .i64 b.dz], .pointer (some ⟨rG, 0, none⟩)] w fun v w' => v = .int .i64 (I6 aI a b) ∧ Hp w S0 w' [] := by
 refine WP.enter Tryz.func177 Y Tryz.ntmps177 Y ?_
 have H0 := Hp.init w S0
 have mP := nW.aN
 have hbd := abE (dP (fJ aI a.ID) (fJ aI b.ID)) (dP a.ID b.ID) (Qc _ _) (Qc _ _)
 refine rg ?_
 refine bx Y Y H0 fun g1 w1 K1 => ?_
 refine bx Y Y K1 fun g2 w2 K2 => ?_
 refine aR Y <| dn ?_
 refine He K2 (fun _ K => K) (fun l0 rk lJ wJ => lJ = (5, .int .i64 (-(zx ([dP (fJ aI a.ID) (fJ aI b.ID), dP a.ID b.ID] : List Int)))) :: l0 ∧ Hp w S0 wJ rk) (fun hns H1 => ?_) ?_
 ·
  refine Tn 0 1 hns Y (fun _ hK => Ev.aj uJ Y (fH.ext hK.ext) Y) H1 <| Tn 1 3 hns Y (fun _ _ => Ev.field (q := ⟨g1, 0, none⟩) dV Y Y) H1 ?_
  refine Tn 2 7 hns Y (fun _ hK => Ev.aj bf Y (hK.x s1) Y) H1 <| Tn 4 23 hns Y (fun _ hK => Ev.aj uJ Y (fH.ext hK.ext) Y) H1 ?_
  refine Tn 5 55 hns Y (fun _ _ => Ev.field (q := ⟨g2, 0, none⟩) dV Y Y) H1 <| Tn 6 119 hns Y (fun _ hK => Ev.aj bf Y (hK.x s0) Y) H1 ?_
  refine Tn 9 631 hns Y (fun _ _ => Ev.field (q := ⟨g1, 0, none⟩) dV Y Y) H1 <| Tn 10 1655 hns Y (fun _ hK => Ev.aj bf Y (hK.x s1) Y) H1 ?_
  refine Tn 11 3703 hns Y (fun _ _ => Ev.field (q := ⟨g2, 0, none⟩) dV Y Y) H1 <| Tn 12 7799 hns Y (fun _ hK => Ev.aj bf Y (hK.x s0) Y) H1 ?_
  refine O1 3 Y ?_
  refine C0 H1 Y Y Y qI (lQ _ (H1.a nW).any a.ID) fun w3 K3 => ?_
  refine WH.next K3 <| O1 7 Y ?_
  refine C0 K3 Y Y Y qI (lQ _ (K3.a nW).any b.ID) fun w4 K4 => ?_
  refine WH.next K4 <| O1 8 Y ?_
  refine C0 K4 Y Y Y qD (jJ (S0 := Any) _ (fJ aI a.ID) (fJ aI b.ID)) fun w5 K5 => ?_
  refine WH.next K5 <| O1 13 Y ?_
  refine C0 K5 Y Y Y qD (jJ (S0 := Any) _ a.ID b.ID) fun w6 K6 => ?_
  refine WH.next K6 <| O1 14 Y ?_
  refine X7 (τ := tInt) (xs := ([dP (fJ aI a.ID) (fJ aI b.ID), dP a.ID b.ID] : List Int)) (vs := [(0, .int .i64 (dP (fJ aI a.ID) (fJ aI b.ID))), (1, .int .i64 (dP a.ID b.ID))]) (css := [[.int .i64 (dP (fJ aI a.ID) (fJ aI b.ID))], [.int .i64 (dP a.ID b.ID)]]) Y (by intro _; apply yL) rfl rfl K6 (fun _ e => ⟨rfl, rfl, trivial⟩) fun g3 w7 K7 => ?_
  have k1 := (K7.rm s0)
  refine WH.next k1 <| O1 15 Y ?_
  refine C0 K7 Y Y Y I7 (Qe _ (K7.o s0)) fun w8 K8 => ?_
  have k2 := (K8.rm s0)
  refine WH.next k2 <| Tn 16 131071 hns Y (fun _ _ => Ev.neg Y (eX.mk (by omega) (by omega))) k2 <| Ta 17 262143 hns Y Y k2 ?_
  exact Dn ⟨Y, (K8.rm s0)⟩ Y
 rintro _ w9 ⟨rfl, K9⟩
 refine WP.ret (aA.aD Y Y Y ?_)
 have hq1 : (-(zx ([dP (fJ aI a.ID) (fJ aI b.ID), dP a.ID b.ID] : List Int)) : Int) = (I6 aI a b) := by rfl
 exact ⟨by rw [hq1] <;> rfl, K9.z⟩
theorem RV {S0 : Nat → Prop} (w : World) (a : ANode) (b : ANode) {rG : Nat} {fC : an3} {fD : Nat} {aI : List bP} (fH : Bx w rG 130 [.slice fC aI.length fD]) (nW : Sl fO S0 w fC fD aI) :
    bY Tryz.prog 178 #[.agg #[.int .i64 a.ID, .int .i64 a.dA, .int .i64 a.fI, .int .i64 a.dz], .agg #[.int .i64 b.ID, .int .i64 b.dA, .int .i64 b.fI, .int .i64 b.dz], .pointer (some ⟨rG, 0, none⟩)] w fun v w' => v = .int .i64 (toC aI a b) ∧ Hp w S0 w' [] := by
 refine WP.enter Tryz.func178 Y Tryz.ntmps178 Y ?_
 have H0 := Hp.init w S0
 have mP := nW.aN
 refine rg ?_
 refine bx Y Y H0 fun g1 w1 K1 => ?_
 refine bx Y Y K1 fun g2 w2 K2 => ?_
 refine aR Y <| dn ?_
 refine He K2 (fun _ K => K) (fun l0 rk lJ wJ => lJ = (5, .int .i64 (zx ([dP (fJ aI a.ID) (fJ aI b.ID), dP a.ID b.ID] : List Int))) :: l0 ∧ Hp w S0 wJ rk) (fun hns H1 => ?_) ?_
 ·
  refine Tn 0 1 hns Y (fun _ hK => Ev.aj uJ Y (fH.ext hK.ext) Y) H1 <| Tn 1 3 hns Y (fun _ _ => Ev.field (q := ⟨g1, 0, none⟩) dV Y Y) H1 ?_
  refine Tn 2 7 hns Y (fun _ hK => Ev.aj bf Y (hK.x s1) Y) H1 <| Tn 4 23 hns Y (fun _ hK => Ev.aj uJ Y (fH.ext hK.ext) Y) H1 ?_
  refine Tn 5 55 hns Y (fun _ _ => Ev.field (q := ⟨g2, 0, none⟩) dV Y Y) H1 <| Tn 6 119 hns Y (fun _ hK => Ev.aj bf Y (hK.x s0) Y) H1 ?_
  refine Tn 9 631 hns Y (fun _ _ => Ev.field (q := ⟨g1, 0, none⟩) dV Y Y) H1 <| Tn 10 1655 hns Y (fun _ hK => Ev.aj bf Y (hK.x s1) Y) H1 ?_
  refine Tn 11 3703 hns Y (fun _ _ => Ev.field (q := ⟨g2, 0, none⟩) dV Y Y) H1 <| Tn 12 7799 hns Y (fun _ hK => Ev.aj bf Y (hK.x s0) Y) H1 ?_
  refine O1 3 Y ?_
  refine C0 H1 Y Y Y qI (lQ _ (H1.a nW).any a.ID) fun w3 K3 => ?_
  refine WH.next K3 <| O1 7 Y ?_
  refine C0 K3 Y Y Y qI (lQ _ (K3.a nW).any b.ID) fun w4 K4 => ?_
  refine WH.next K4 <| O1 8 Y ?_
  refine C0 K4 Y Y Y qD (jJ (S0 := Any) _ (fJ aI a.ID) (fJ aI b.ID)) fun w5 K5 => ?_
  refine WH.next K5 <| O1 13 Y ?_
  refine C0 K5 Y Y Y qD (jJ (S0 := Any) _ a.ID b.ID) fun w6 K6 => ?_
  refine WH.next K6 <| O1 14 Y ?_
  refine X7 (τ := tInt) (xs := ([dP (fJ aI a.ID) (fJ aI b.ID), dP a.ID b.ID] : List Int)) (vs := [(0, .int .i64 (dP (fJ aI a.ID) (fJ aI b.ID))), (1, .int .i64 (dP a.ID b.ID))]) (css := [[.int .i64 (dP (fJ aI a.ID) (fJ aI b.ID))], [.int .i64 (dP a.ID b.ID)]]) Y (by intro _; apply yL) rfl rfl K6 (fun _ e => ⟨rfl, rfl, trivial⟩) fun g3 w7 K7 => ?_
  have k1 := (K7.rm s0)
  refine WH.next k1 <| O1 15 Y ?_
  refine C0 K7 Y Y Y I7 (Qe _ (K7.o s0)) fun w8 K8 => ?_
  have k2 := (K8.rm s0)
  refine WH.next k2 <| Ta 16 131071 hns Y Y k2 ?_
  exact Dn ⟨Y, (K8.rm s0)⟩ Y
 rintro _ w9 ⟨rfl, K9⟩
 refine WP.ret (aA.aD Y Y Y ?_)
 have hq1 : (zx ([dP (fJ aI a.ID) (fJ aI b.ID), dP a.ID b.ID] : List Int) : Int) = (toC aI a b) := by rfl
 exact ⟨by rw [hq1] <;> rfl, K9.z⟩
theorem Va {S0 : Nat → Prop} (w : World) {d9 : an3} {eu : Nat} {l : List ANode} (dN : Sl tNode S0 w d9 eu l) {fC : an3} {fD : Nat} {aI : List bP} (fH : Sl fO S0 w fC fD aI) (hn : l.length ≤ 100000) (hu : Up ANode.ID l) :
    bY Tryz.prog 145 #[.slice d9 l.length eu, .slice fC aI.length fD] w fun v w' => ∃ (Vb : Nat) (aeu : an3) (aev : Nat) (Lc : Nat) (mQ : an3) (mR : Nat), v = .func (.func 179) #[] #[.pointer (some ⟨Vb, 0, none⟩), .pointer (some ⟨Lc, 0, none⟩)] ∧ Hp w S0 w' [dG Vb 22 [.slice aeu ((pF (I6 aI) l).length) aev], dG Lc 22 [.slice mQ ((pF (toC aI) l).length) mR], aQ tNode 63 aeu aev (pF (I6 aI) l), aQ tNode 63 mQ mR (pF (toC aI) l)] := by
 refine WP.enter Tryz.func145 Y Tryz.ntmps145 Y ?_
 have H0 := Hp.init w S0
 have iJ := dN.aN
 have mP := fH.aN
 refine rg ?_
 refine bx Y Y H0 fun g1 w1 K1 => ?_
 refine aR Y <| dn <| rg <| mv Y <| WL.call Y Y Y IZ (p8 _ (K1.a dN).any (by omega)) Y ?_
 rintro _ w2 ⟨lD, lF, rfl, h2⟩
 have K2 := K1.f1 h2
 refine mv Y <| WL.call Y Y Y IZ (p8 _ (K2.a dN).any (by omega)) Y ?_
 rintro _ w3 ⟨qW, qX, rfl, h3⟩
 have K3 := K2.f1 h3
 refine al Qd Y K3 fun g2 w4 K4 => ?_
 refine al Qd Y K4 fun g3 w5 K5 => ?_
 refine BK Y Y Y ZI K5 s1 Y fun w6 K6 => ?_
 refine BK Y Y Y ZI K6 s1 Y fun w7 K7 => ?_
 refine dn <| rg <| ev (Ev.aj lS Y (K7.x s1) Y) <| ev (Ev.func Y) <| WL.call Y Y Y U7 (Zw Tryz.laysF6 kU.1 eO (cf := (I6 aI)) (U6 aI) (cb := [.pointer (some ⟨g1, 0, none⟩)]) (K7.sel s3) abF (by omega) (YN hu) (fun w9 ys YK K9 x9 y9 => (RU (S0 := Any) w9 x9 y9 (K9.x s4) (K9.a fH).any).mono (by rintro _ w8 ⟨rfl, K8⟩; exact ⟨rfl, K8.ext⟩))) rfl ?_
 rintro _ w8 ⟨rfl, K8⟩
 refine dn <| rg <| ev (Ev.aj lS Y (K8.x s1) Y) <| ev (Ev.func Y) <| WL.call Y Y Y U7 (Zw Tryz.laysF6 kU.1 eO (cf := (toC aI)) (U5 aI) (cb := [.pointer (some ⟨g1, 0, none⟩)]) (K8.sel s3) abG (by omega) (YM hu) (fun w9 ys YK K9 x9 y9 => (RV (S0 := Any) w9 x9 y9 (K9.x s4) (K9.a fH).any).mono (by rintro _ w8 ⟨rfl, K8⟩; exact ⟨rfl, K8.ext⟩))) rfl ?_
 rintro _ w9 ⟨rfl, K9⟩
 refine dn <| rg <| ev (Ev.func Y) <| aR Y <| dn ?_
 refine WP.ret (aA.aD Y Y Y ?_)
 have hl1 : (pF (I6 aI) l).length = l.length := List.length_mergeSort _
 have hl2 : (pF (toC aI) l).length = l.length := List.length_mergeSort _
 have H1 : Hp w S0 w9 [aQ tNode 63 qW qX (pF (toC aI) l), aQ tNode 63 lD lF (pF (I6 aI) l), dG g3 22 [.slice qW ((pF (toC aI) l).length) qX], dG g2 22 [.slice lD ((pF (I6 aI) l).length) lF], dG g1 130 [.slice fC aI.length fD]] := by rw [hl1, hl2]; exact K9
 exact ⟨g2, lD, lF, g3, qW, qX, Y, (((((H1.rm s4).sel s0).sel s1).sel s2).sel s3)⟩
theorem Ld {b : World} {S : Nat → Prop} {gp1 gp2 : Nat} {A_1 A_2 : an3} {c_1 c_2 : Nat} {xs ys : List ANode} (hn1 : xs.length ≤ 1000000) (hn2 : ys.length ≤ 1000000) :
    Iter Tryz.prog 179 [.pointer (some ⟨gp1, 0, none⟩), .pointer (some ⟨gp2, 0, none⟩)] (fun (x : ANode × ANode) => [.agg #[.int .i64 x.1.ID, .int .i64 x.1.dA, .int .i64 x.1.fI, .int .i64 x.1.dz], .agg #[.int .i64 x.2.ID, .int .i64 x.2.dA, .int .i64 x.2.fI, .int .i64 x.2.dz]]) (bB xs ys) b S [dG gp1 22 [.slice A_1 xs.length c_1], dG gp2 22 [.slice A_2 ys.length c_2], aQ tNode 63 A_1 c_1 xs, aQ tNode 63 A_2 c_2 ys] := by
 intro lr Jf Jx w F0 H0 h0 hY
 refine WP.Ul Tryz.func179 Y Tryz.ntmps179 Y ?_
 have K0 := Hp.comm (F := F0) H0
 refine rg <| ev (Ev.aj lS Y (K0.x s0) Y) <| ev (Ev.len Tryz.underlying22 Y) <| mv Y <| dn <| WP.block <| WP.lp (fun mJ lJ wJ => ∃ (k : Nat) (F : List jP), lJ = [(0, .func (.yield lr) #[] #[]), (2, .pointer (some ⟨gp2, 0, none⟩)), (8, .slice A_1 xs.length c_1), (9, .int .i64 ((xs.length : Nat) : Int)), (10, .int .i64 ((k : Nat) : Int))] ∧ mJ = xs.length - k ∧ k ≤ xs.length ∧ (Jf (bB (xs.take k) ys) F) ∧ Hp b S wJ (dG gp1 22 [.slice A_1 xs.length c_1] :: dG gp2 22 [.slice A_2 ys.length c_2] :: aQ tNode 63 A_1 c_1 xs :: aQ tNode 63 A_2 c_2 ys :: F)) ⟨0, F0, Y, Y, Nat.zero_le _, by simpa [bB] using h0, K0⟩ rfl ?_
 rintro _ _ w1 ⟨k, F, rfl, rfl, hk, YO, K1⟩
 refine rg <| ev (Ev.lss Y Y) <| dn ?_
 refine WP.cond Y (fun fK => ?_) (fun fK => ?_)
 ·
  replace fK := of_decide_eq_true fK
  refine WP.skip (aA.norm ?_)
  refine WP.seq <| WP.block <| rg ?_
  obtain ⟨x1, hx1⟩ := get_some (xs := xs) (i := k) (by omega)
  refine ev (Ev.index (i := k) Tryz.underlying22 eO Y Y Y (aC hx1) ((K1.o s2).some_ hx1)) <| ev (Ev.loadRow kU Y Y ((K1.o s2).dx hx1)) ?_
  refine al iM Y K1 fun g1 w2 K2 => ?_
  refine iW Y Y Y eO K2 s0 Y Y fun w3 K3 => ?_
  refine dn <| rg <| ev (Ev.aj lS Y (K3.x s2) Y) <| ev (Ev.len Tryz.underlying22 Y) <| mv Y <| dn <| WP.block <| WP.lp (fun mJ lJ wJ => ∃ (k2 : Nat) (F2 : List jP), lJ = [(0, .func (.yield lr) #[] #[]), (2, .pointer (some ⟨gp2, 0, none⟩)), (5, .pointer (some ⟨g1, 0, none⟩)), (8, .slice A_1 xs.length c_1), (9, .int .i64 ((xs.length : Nat) : Int)), (10, .int .i64 ((k : Nat) : Int)), (14, .slice A_2 ys.length c_2), (15, .int .i64 ((ys.length : Nat) : Int)), (16, .int .i64 ((k2 : Nat) : Int))] ∧ mJ = ys.length - k2 ∧ k2 ≤ ys.length ∧ (Jf (bB (xs.take k) ys ++ (ys.take k2).map (fun y => (x1, y))) F2) ∧ Hp b S wJ (dG g1 63 [.int .i64 x1.ID, .int .i64 x1.dA, .int .i64 x1.fI, .int .i64 x1.dz] :: dG gp1 22 [.slice A_1 xs.length c_1] :: dG gp2 22 [.slice A_2 ys.length c_2] :: aQ tNode 63 A_1 c_1 xs :: aQ tNode 63 A_2 c_2 ys :: F2)) ⟨0, F, Y, Y, Nat.zero_le _, by simpa using YO, K3⟩ rfl ?_
  rintro _ _ w4 ⟨k2, F2, rfl, rfl, hk2, abI, K4⟩
  refine rg <| ev (Ev.lss Y Y) <| dn ?_
  refine WP.cond Y (fun hc17 => ?_) (fun hc17 => ?_)
  ·
   replace hc17 := of_decide_eq_true hc17
   refine WP.skip (aA.norm ?_)
   refine WP.seq <| WP.block <| rg ?_
   obtain ⟨x2, hx2⟩ := get_some (xs := ys) (i := k2) (by omega)
   refine ev (Ev.index (i := k2) Tryz.underlying22 eO Y Y Y (aC hx2) ((K4.o s4).some_ hx2)) <| ev (Ev.loadRow kU Y Y ((K4.o s4).dx hx2)) ?_
   refine al iM Y K4 fun g2 w5 K5 => ?_
   refine iW Y Y Y eO K5 s0 Y Y fun w6 K6 => ?_
   refine dn <| rg <| mv Y <| ev (Ev.bX kU Y Y (K6.x s1)) <| ev (Ev.bX kU Y Y (K6.x s0)) ?_
   have hy1 := hY (bB (xs.take k) ys ++ (ys.take k2).map (fun y => (x1, y))) (x1, x2) _ _ _ abI (RS hx1 hx2) (Hp.comm (F := [dG g2 63 [.int .i64 x2.ID, .int .i64 x2.dA, .int .i64 x2.fI, .int .i64 x2.dz], dG g1 63 [.int .i64 x1.ID, .int .i64 x1.dA, .int .i64 x1.fI, .int .i64 x1.dz], dG gp1 22 [.slice A_1 xs.length c_1], dG gp2 22 [.slice A_2 ys.length c_2], aQ tNode 63 A_1 c_1 xs, aQ tNode 63 A_2 c_2 ys]) K6)
   refine WL.yield trivial Y Y hy1 (by rintro e w' (⟨rfl, _⟩ | ⟨rfl, _⟩) <;> exact ⟨_, rfl⟩) rfl rfl rfl ?_
   rintro v w7 (⟨hv, F1, hJ1, K7⟩ | ⟨hv, F1, hJ1, K7⟩)
   ·
    cases hv
    have K7c := Hp.comm (F := F1) K7
    refine ev (Ev.not Y) <| dn ?_
    refine WP.aG Y (fun _h => absurd _h (by decide)) (fun _h => ?_)
    refine WP.skip (aA.aS (aA.norm ?_))
    refine eP <| ev (Ev.add Y Y (eX.mk (by omega) (by omega))) <| mv Y <| eT ?_
    exact aA.ag ⟨(k2 + 1), F1, Y, Y, by omega, by rw [dK hx2, List.map_append, ← List.append_assoc]; assumption, (K7c.rm s0)⟩ rfl (by omega)
   ·
    cases hv
    have K7c := Hp.comm (F := F1) K7
    refine ev (Ev.not Y) <| dn ?_
    refine WP.aG Y (fun _h => ?_) (fun _h => absurd _h (by decide))
    exact WP.ret (aA.bW (aA.aP (aA.aP (aA.bW (aA.bW (aA.aP (aA.aP (aA.bW (aA.Yq Y ⟨⟨_, Y⟩, .inr ⟨_, _, hJ1, ((((((K7c.rm s5).rm s4).rm s3).rm s2).rm s1).rm s0)⟩⟩)))))))))
  replace hc17 := of_decide_eq_false hc17
  refine WP.exit (aA.aF (aA.aF (aA.bS (aA.aS (aA.norm ?_)))))
  refine eP <| ev (Ev.add Y Y (eX.mk (by omega) (by omega))) <| mv Y <| eT ?_
  exact aA.ag ⟨(k + 1), F2, Y, Y, by omega, by rw [qH hx1]; rw [List.take_of_length_le (show ys.length ≤ k2 by omega)] at abI; exact abI, (K4.rm s0)⟩ rfl (by omega)
 replace fK := of_decide_eq_false fK
 exact WP.exit (aA.aF (aA.aF (aA.bS (aA.Zu (aA.Yq Y ⟨⟨_, Y⟩, .inl ⟨_, by rw [List.take_of_length_le (by omega)] at YO; exact YO, ((((K1.rm s3).rm s2).rm s1).rm s0)⟩⟩)))))
end Go.Proofs.YtjcklpooaaaglaaGreat
set_option maxRecDepth 4000
set_option linter.all false
namespace Go.Proofs.YtjcklpooaaaglaaGreat
open Go.RowKit
def Ba (cs : List AChunk) (l : List ANode) (x y : ANode) : Option AOrder := (cs.find? fun (c : AChunk) => jB c l x.ID y.ID).map fun (c : AChunk) => ⟨0, c.ID, c.ay, c.Sum, x.ID, y.ID, 0⟩
def lg (cs : List AChunk) (l : List ANode) (aI : List bP) (bE : Int) (p : ANode × ANode) : Option AOrder := if fJ aI p.1.ID - fJ aI p.2.ID ≤ (if 1 > bE then 1 else bE) ∨ p.2.fI ≤ fJ aI p.2.ID then none else Ba cs l p.1 p.2
def nD (cs : List AChunk) (l : List ANode) (ah : List Int) : List (ANode × ANode) := bB (pF (I6 (bT cs l ah)) (aU l ah)) (pF (toC (bT cs l ah)) (aU l ah))
def aV (cs : List AChunk) (l : List ANode) (ah : List Int) (bE : Int) : AOrder := if jA cs = true then ((nD cs l ah).findSome? (lg cs l (bT cs l ah) bE)).getD ⟨0, 0, 0, 0, 0, 0, 0⟩ else ⟨0, 0, 0, 0, 0, 0, 0⟩
def moveB (cs : List AChunk) (l : List ANode) (ah : List Int) (bE : Int) : Bool := decide (0 < (aV cs l ah bE).aB)
theorem Vd {α β : Type} {f : α → Option β} {pre ys : List α} {x : α} {o : β} (h : pre ++ [x] <+: ys) (hno : ∀ p ∈ pre, f p = none) (hx : f x = some o) : ys.findSome? f = some o := by
  obtain ⟨t, rfl⟩ := h
  rw [List.findSome?_append, List.findSome?_append, List.findSome?_eq_none_iff.2 hno]
  simp [hx]
theorem Ve {cs : List AChunk} {l : List ANode} {ah : List Int} (id : Int) : 0 ≤ fJ (bT cs l ah) id ∧ fJ (bT cs l ah) id ≤ cs.length := by
  unfold fJ
  split
  · rename_i x hx; exact Oi (List.mem_of_find?_eq_some hx)
  · omega
theorem Qf (l : List ANode) (ah : List Int) : Up ANode.ID (aU l ah) := by
  unfold aU; split
  · rename_i h; exact List.Pairwise.filter _ (zo _ 0 h)
  · exact List.Pairwise.nil
theorem Vf (l : List ANode) (ah : List Int) : (aU l ah).length ≤ l.length := by
  unfold aU; split
  · exact List.length_filter_le _ _
  · simp
theorem D8 {cs : List AChunk} {l : List ANode} {aI : List bP} {bE : Int} {p : ANode × ANode} {k : Nat} (h : ∀ c ∈ cs.take k, jB c l p.1.ID p.2.ID = false) (hk : cs.length ≤ k) : lg cs l aI bE p = none := by
  unfold lg Ba
  rw [List.take_of_length_le hk] at h
  rw [List.find?_eq_none.2 (fun c hc => by simp [h c hc])]
  exact ite_self _
theorem RX {cs : List AChunk} {l : List ANode} {aI : List bP} {bE : Int} {p : ANode × ANode} {k : Nat} {x : AChunk} (hc : ¬ (fJ aI p.1.ID - fJ aI p.2.ID ≤ (if 1 > bE then 1 else bE) ∨ p.2.fI ≤ fJ aI p.2.ID)) (h : ∀ c ∈ cs.take k, jB c l p.1.ID p.2.ID = false) (hx : cs[k]? = some x) (hg : jB x l p.1.ID p.2.ID = true) :
    lg cs l aI bE p = some ⟨0, x.ID, x.ay, x.Sum, p.1.ID, p.2.ID, 0⟩ := by
  have hs : cs = cs.take k ++ x :: cs.drop (k + 1) := by
    conv => lhs; rw [← List.take_append_drop k cs]
    rw [List.drop_eq_getElem_cons (aC hx), (List.getElem?_eq_some_iff.1 hx).2]
  unfold lg Ba
  rw [if_neg hc, hs, List.find?_append, List.find?_eq_none.2 (fun c hc => by simp [h c hc])]
  simp [hg]
theorem jM : ∀ w, (zeroValue 50).run Tryz.prog w = .ok (.agg #[.int .i64 0, .int .i64 0, .int .i64 0, .int .u32 0, .int .i64 0, .int .i64 0, .int .i64 0]) w := fun _ => by kernel_rfl
theorem nM : kH Tryz.prog 23 := fun _ => by kernel_rfl
theorem gW : Size Tryz.prog 50 7 := fun _ => by kernel_rfl
theorem jV : NT Tryz.prog 50 7 := ⟨fun _ => by kernel_rfl, gW⟩
theorem abK : aM Tryz.prog 144 := fun _ _ => by kernel_rfl
theorem Vg : ∀ w, (zeroValue 130).run Tryz.prog w = .ok (.slice none 0 0) w := fun _ => by kernel_rfl
theorem abL : Size Tryz.prog 130 1 := fun _ => by kernel_rfl
theorem abM : aM Tryz.prog 145 := fun _ _ => by kernel_rfl
theorem abN : aM Tryz.prog 179 := fun _ _ => by kernel_rfl
theorem abO : aM Tryz.prog 146 := fun _ _ => by kernel_rfl
theorem rH : dL Tryz.prog 53 2 2 := fun _ _ => by kernel_rfl
theorem BP : kH Tryz.prog 48 := fun _ => by kernel_rfl
theorem nN (a0 : Int) (a1 : Int) (a2 : Int) (a3 : Int) (a4 : Int) (a5 : Int) : Tryz.prog.built 50 [(0, .int .i64 a0), (1, .int .i64 a1), (2, .int .i64 a2), (3, .int .u32 a3), (4, .int .i64 a4), (5, .int .i64 a5)] = some #[.int .i64 a0, .int .i64 a1, .int .i64 a2, .int .u32 a3, .int .i64 a4, .int .i64 a5, .int .i64 0] := by kernel_rfl
theorem xK : dL Tryz.prog 50 1 1 := fun _ _ => by kernel_rfl
theorem I8 {α β : Type} {f : α → Option β} {pre : List α} {x : α} (h : ∀ p ∈ pre, f p = none) (hx : f x = none) : ∀ p ∈ pre ++ [x], f p = none := by
  intro p hp
  rcases List.mem_append.1 hp with h1 | h1
  · exact h p h1
  · rw [List.mem_singleton.1 h1]; exact hx
theorem Qg {S0 : Nat → Prop} (w : World) {eB : an3} {eD : Nat} {au : List AChunk} (eF : Sl tChunk S0 w eB eD au) {d9 : an3} {eu : Nat} {l : List ANode} (dN : Sl tNode S0 w d9 eu l) {cZ : an3} {dh : Nat} {ah : List Int} (cu : Sl tInt S0 w cZ dh ah) (bE : Int) (hn : l.length ≤ 100000) (hc : au.length ≤ 100000) (hh : ∀ x ∈ au, x.av.length ≤ 100000) :
    bY Tryz.prog 89 #[.slice eB au.length eD, .slice d9 l.length eu, .slice cZ ah.length dh, .int .i64 bE] w fun v w' => v = .tuple #[.agg #[.int .i64 ((aV au l ah bE).Kind), .int .i64 ((aV au l ah bE).aB), .int .i64 ((aV au l ah bE).ay), .int .u32 ((aV au l ah bE).Sum), .int .i64 ((aV au l ah bE).dw), .int .i64 ((aV au l ah bE).To), .int .i64 ((aV au l ah bE).dQ)], .bool (moveB au l ah bE)] ∧ Hp w S0 w' [] := by
 refine WP.Uk Tryz.func89 Y Tryz.ntmps89 Y ?_
 have H0 := Hp.init w S0
 have oL := eF.aN
 have iJ := dN.aN
 have iy := cu.aN
 have hfl := Vf l ah
 refine rg ?_
 refine bx Y Y H0 fun g1 w1 K1 => ?_
 refine bx Y Y K1 fun g2 w2 K2 => ?_
 refine bx Y Y K2 fun g3 w3 K3 => ?_
 refine al jM Y K3 fun g4 w4 K4 => ?_
 refine aR Y <| dn <| WP.sc <| rg ?_
 refine al jM Y K4 fun g5 w5 K5 => ?_
 refine dn <| WP.seq <| rg <| ev (Ev.aj nM Y (K5.x s4) Y) ?_
 refine C0 K5 Y Y Y UC (IU _ (K5.a eF).any (by omega)) fun w6 K6 => ?_
 refine ev (Ev.not Y) <| dn ?_
 refine WP.aG Y (fun iX => ?_) (fun iX => ?_)
 ·
  try simp only [an4, an5, an6, an7, an8, an9, aoa, aob] at iX
  refine rg <| ev (Ev.bX jV Y Y (K6.x s0)) ?_
  refine iW Y Y Y gW K6 s1 Y Y fun w7 K7 => ?_
  refine aR Y <| dn ?_
  refine WP.ret (aA.aP (aA.N7 (aA.ah6 Y ⟨_, _, Y, ⟨_, Y, eH (cs := [.int .i64 0, .int .i64 0, .int .i64 0, .int .u32 0, .int .i64 0, .int .i64 0, .int .i64 0]) jV Y (K7.x s0)⟩, ⟨_, _, Y, Y, Y⟩⟩ ?_)))
  have hq1 : ((⟨0, 0, 0, 0, 0, 0, 0⟩ : AOrder) : AOrder) = (aV au l ah bE) := by unfold aV; rw [if_neg (by rw [iX]; decide)]
  have hq2 : (0 : Int) = (aV au l ah bE).Kind := by rw [← hq1]
  have hq3 : (0 : Int) = (aV au l ah bE).aB := by rw [← hq1]
  have hq4 : (0 : Int) = (aV au l ah bE).ay := by rw [← hq1]
  have kP : (0 : Int) = (aV au l ah bE).Sum := by rw [← hq1]
  have ny : (0 : Int) = (aV au l ah bE).dw := by rw [← hq1]
  have kT : (0 : Int) = (aV au l ah bE).To := by rw [← hq1]
  have hq8 : (0 : Int) = (aV au l ah bE).dQ := by rw [← hq1]
  have uj : (false : Bool) = (moveB au l ah bE) := by unfold moveB aV; rw [if_neg (by rw [iX]; decide)]; rfl
  exact ⟨by rw [← hq2, ← hq3, ← hq4, ← kP, ← ny, ← kT, ← hq8, ← uj] <;> rfl, K7.z⟩
 try simp only [an4, an5, an6, an7, an8, an9, aoa, aob] at iX
 refine WP.skip (aA.norm ?_)
 refine rg <| ev (Ev.aj nM Y (K6.x s4) Y) <| ev (Ev.aj lS Y (K6.x s3) Y) <| mv Y <| WL.call Y Y Y abK (abx _ (K6.a eF).any (K6.a dN).any (K6.a cu).any (by omega)) Y ?_
 rintro _ w8 ⟨yg, yj, yM, yN, rfl, h8⟩
 have K8 := K6.f2 h8
 have Qh := (K8.o s0).aN
 have aey := (K8.o s1).aN
 refine mv Y <| xt Y Y <| xt Y Y ?_
 refine al Vg Y K8 fun g6 w9 K9 => ?_
 refine aR Y ?_
 refine BK Y Y Y abL K9 s0 Y fun J8 K10 => ?_
 refine dn ?_
 refine WP.seq (WP.lab (aA.norm ?_))
 refine WP.seq <| rg <| mv Y <| ev (Ev.aj uJ Y (K10.x s0) Y) <| WL.call Y Y Y abM (Va _ (K10.o s1) (K10.o s2) (by omega) (Qf l ah)) Y ?_
 rintro _ Om ⟨YP, Qj, Qk, YQ, Ql, Qm, rfl, h11⟩
 have qb := K10.f4 h11
 have aiq := (qb.o s2).aN
 have air := (qb.o s3).aN
 refine dn <| WP.block ?_
 refine WP.range (enc := fun (x : (ANode × ANode)) => [.agg #[.int .i64 x.1.ID, .int .i64 x.1.dA, .int .i64 x.1.fI, .int .i64 x.1.dz], .agg #[.int .i64 x.2.ID, .int .i64 x.2.dA, .int .i64 x.2.fI, .int .i64 x.2.dz]]) (ys := bB (pF (I6 (bT au l ah)) (aU l ah)) (pF (toC (bT au l ah)) (aU l ah))) (F0 := [dG g5 50 [.int .i64 0, .int .i64 0, .int .i64 0, .int .u32 0, .int .i64 0, .int .i64 0, .int .i64 0], dG g6 130 [.slice yM ((bT au l ah).length) yN], aQ tNode 63 yg yj (aU l ah), aQ fO 173 yM yN (bT au l ah), dG g4 50 [.int .i64 0, .int .i64 0, .int .i64 0, .int .u32 0, .int .i64 0, .int .i64 0, .int .i64 0], dG g3 3 [.int .i64 bE], dG g2 22 [.slice d9 l.length eu], dG g1 23 [.slice eB au.length eD]]) (G0 := [dG YP 22 [.slice Qj ((pF (I6 (bT au l ah)) (aU l ah)).length) Qk], dG YQ 22 [.slice Ql ((pF (toC (bT au l ah)) (aU l ah)).length) Qm], aQ tNode 63 Qj Qk (pF (I6 (bT au l ah)) (aU l ah)), aQ tNode 63 Ql Qm (pF (toC (bT au l ah)) (aU l ah))]) Y abN (Ld (by simp only [pF, List.length_mergeSort]; omega) (by simp only [pF, List.length_mergeSort]; omega)) ((((((((((((qb.sel s3).sel s3).sel s3).sel s3).sel s11).sel s11).sel s11).sel s11).sel s10).sel s10).sel s10).sel s11) (fun _ => rfl) rfl (fun pre F => F = [dG g5 50 [.int .i64 0, .int .i64 0, .int .i64 0, .int .u32 0, .int .i64 0, .int .i64 0, .int .i64 0], dG g6 130 [.slice yM ((bT au l ah).length) yN], aQ tNode 63 yg yj (aU l ah), aQ fO 173 yM yN (bT au l ah), dG g4 50 [.int .i64 0, .int .i64 0, .int .i64 0, .int .u32 0, .int .i64 0, .int .i64 0, .int .i64 0], dG g3 3 [.int .i64 bE], dG g2 22 [.slice d9 l.length eu], dG g1 23 [.slice eB au.length eD]] ∧ (∀ p ∈ pre, (lg au l (bT au l ah) bE) p = none)) (fun c pre F => (c = (.exit 0) ∧ ∃ (oc : Int) (ov : Int) (os : Int) (of_ : Int) (ot : Int), F = [dG g5 50 [.int .i64 0, .int .i64 oc, .int .i64 ov, .int .u32 os, .int .i64 of_, .int .i64 ot, .int .i64 0], dG g6 130 [.slice yM ((bT au l ah).length) yN], aQ tNode 63 yg yj (aU l ah), aQ fO 173 yM yN (bT au l ah), dG g4 50 [.int .i64 0, .int .i64 0, .int .i64 0, .int .u32 0, .int .i64 0, .int .i64 0, .int .i64 0], dG g3 3 [.int .i64 bE], dG g2 22 [.slice d9 l.length eu], dG g1 23 [.slice eB au.length eD]] ∧ ((nD au l ah).findSome? (lg au l (bT au l ah) bE) = some ⟨0, oc, ov, os, of_, ot, 0⟩))) (fun pre x l1 F => ∃ (NG : Nat) (Ya : Nat), l1 = [(4, .pointer (some ⟨g1, 0, none⟩)), (5, .pointer (some ⟨g2, 0, none⟩)), (7, .pointer (some ⟨g3, 0, none⟩)), (10, .pointer (some ⟨g5, 0, none⟩)), (12, .pointer (some ⟨g6, 0, none⟩)), (13, .pointer (some ⟨Ya, 0, none⟩)), (14, .pointer (some ⟨NG, 0, none⟩))] ∧ F = [dG NG 63 [.int .i64 x.2.ID, .int .i64 x.2.dA, .int .i64 x.2.fI, .int .i64 x.2.dz], dG Ya 63 [.int .i64 x.1.ID, .int .i64 x.1.dA, .int .i64 x.1.fI, .int .i64 x.1.dz], dG g5 50 [.int .i64 0, .int .i64 0, .int .i64 0, .int .u32 0, .int .i64 0, .int .i64 0, .int .i64 0], dG g6 130 [.slice yM ((bT au l ah).length) yN], aQ tNode 63 yg yj (aU l ah), aQ fO 173 yM yN (bT au l ah), dG g4 50 [.int .i64 0, .int .i64 0, .int .i64 0, .int .u32 0, .int .i64 0, .int .i64 0, .int .i64 0], dG g3 3 [.int .i64 bE], dG g2 22 [.slice d9 l.length eu], dG g1 23 [.slice eB au.length eD]] ∧ (∀ p ∈ pre, (lg au l (bT au l ah) bE) p = none)) ⟨rfl, by intro p hp; simp at hp⟩ ?_ ?_ ?_ ?_
 ·
  rintro lr pre x _ G Le ⟨rfl, hno⟩ hpre oH
  refine rg ?_
  refine al iM Y oH fun g7 RY sP => ?_
  refine iW Y Y Y eO sP s0 Y Y fun RZ nO => ?_
  refine dn <| eP ?_
  refine al iM Y nO fun g8 TM vW => ?_
  refine iW Y Y Y eO vW s0 Y Y fun w16 tQ => ?_
  refine eT ?_
  exact aA.ap ⟨g8, g7, Y, Y, hno⟩ Y tQ
 ·
  rintro lr pre x _ _ G Vh ⟨NG, Ya, rfl, rfl, hno⟩ hpre qp
  refine WP.block <| rg <| ev (Ev.aj uJ Y (qp.x s3) Y) <| ev (Ev.field (q := ⟨NG, 0, none⟩) dV Y Y) <| ev (Ev.aj bf Y (qp.x s0) Y) ?_
  refine C0 qp Y Y Y qI (lQ _ (qp.o s5) x.2.ID) fun Yb vX => ?_
  refine aR Y <| dn <| WP.seq ?_
  have hpb := Ve (cs := au) (l := l) (ah := ah) x.1.ID
  have hpc := Ve (cs := au) (l := l) (ah := ah) x.2.ID
  refine WP.dr (by kernel_rfl) ?_
  have H1 := vX.grow (Ext.refl Yb).drew
  refine WI.block (S := fun wK => Hp w S0 wK (dG NG 63 [.int .i64 x.2.ID, .int .i64 x.2.dA, .int .i64 x.2.fI, .int .i64 x.2.dz] :: dG Ya 63 [.int .i64 x.1.ID, .int .i64 x.1.dA, .int .i64 x.1.fI, .int .i64 x.1.dz] :: dG g5 50 [.int .i64 0, .int .i64 0, .int .i64 0, .int .u32 0, .int .i64 0, .int .i64 0, .int .i64 0] :: dG g6 130 [.slice yM ((bT au l ah).length) yN] :: aQ tNode 63 yg yj (aU l ah) :: aQ fO 173 yM yN (bT au l ah) :: dG g4 50 [.int .i64 0, .int .i64 0, .int .i64 0, .int .u32 0, .int .i64 0, .int .i64 0, .int .i64 0] :: dG g3 3 [.int .i64 bE] :: dG g2 22 [.slice d9 l.length eu] :: dG g1 23 [.slice eB au.length eD] :: G)) [(0, 38, .slice yM ((bT au l ah).length) yN), (1, 39, .pointer (some ⟨Ya, 0, none⟩)), (4, 42, .int .i64 (fJ (bT au l ah) x.2.ID)), (6, 44, .int .i64 bE), (2, 40, .int .i64 x.1.ID), (7, 45, .int .i64 (if 1 > bE then 1 else bE)), (3, 41, .int .i64 (fJ (bT au l ah) x.1.ID)), (5, 43, .int .i64 (fJ (bT au l ah) x.1.ID - fJ (bT au l ah) x.2.ID)), (8, 46, .bool (decide (fJ (bT au l ah) x.1.ID - fJ (bT au l ah) x.2.ID ≤ (if 1 > bE then 1 else bE)))), (9, 47, .bool (decide (fJ (bT au l ah) x.1.ID - fJ (bT au l ah) x.2.ID ≤ (if 1 > bE then 1 else bE))))] 5 (List.toArray [true, true, true, true, true, true, true, true, true, true, false, false, false, false, false]) (Ur (by kernel_rfl)) Y Y Y ?_ H1 ?_
  ·
   simp only [List.forall_mem_cons, List.not_mem_nil, false_implies, implies_true, and_true]
   refine ⟨?_, ?_, ?_, ?_, ?_, ?_, ?_, ?_, ?_, ?_⟩
   ·
    exact ⟨_, Y, Y, Y, Y, Qi.ev (fun _ hK => (Ev.aj uJ Y (hK.x s3) Y))⟩
   ·
    exact ⟨_, Y, Y, Y, Y, Qi.ev (fun _ hK => (Ev.field (q := ⟨Ya, 0, none⟩) dV Y Y))⟩
   ·
    exact ⟨_, Y, Y, Y, Y, Qi.ev (fun _ hK => (Ev.move Y))⟩
   ·
    exact ⟨_, Y, Y, Y, Y, Qi.ev (fun _ hK => (Ev.aj bf Y (hK.x s7) Y))⟩
   ·
    exact ⟨_, Y, Y, Y, Y, Qi.ev (fun _ hK => (Ev.aj bf Y (hK.x s1) Y))⟩
   ·
    exact ⟨_, Y, Y, Y, Y, Qi.ev (fun _ hK => (Ev.max2 Y Y))⟩
   ·
    exact ⟨_, Y, Y, Y, Y, Qi.call Y Y Y qI (fun _ hK => (lQ _ (hK.o s5) x.1.ID).mono (by rintro _ _ ⟨rfl, hq2⟩; exact ⟨rfl, hK.grow hq2.ext⟩))⟩
   ·
    exact ⟨_, Y, Y, Y, Y, Qi.ev (fun _ hK => (Ev.sub Y Y (eX.mk (by omega) (by omega))))⟩
   ·
    exact ⟨_, Y, Y, Y, Y, Qi.ev (fun _ hK => (Ev.leq Y Y))⟩
   ·
    exact ⟨_, Y, Y, Y, Y, Qi.ev (fun _ hK => (Ev.move Y))⟩
  intro ZJ zy
  cases aez : decide (fJ (bT au l ah) x.1.ID - fJ (bT au l ah) x.2.ID ≤ (if 1 > bE then 1 else bE)) with
  | true =>
   have aeA := of_decide_eq_true aez
   refine WI.block (S := fun wK => Hp w S0 wK (dG NG 63 [.int .i64 x.2.ID, .int .i64 x.2.dA, .int .i64 x.2.fI, .int .i64 x.2.dz] :: dG Ya 63 [.int .i64 x.1.ID, .int .i64 x.1.dA, .int .i64 x.1.fI, .int .i64 x.1.dz] :: dG g5 50 [.int .i64 0, .int .i64 0, .int .i64 0, .int .u32 0, .int .i64 0, .int .i64 0, .int .i64 0] :: dG g6 130 [.slice yM ((bT au l ah).length) yN] :: aQ tNode 63 yg yj (aU l ah) :: aQ fO 173 yM yN (bT au l ah) :: dG g4 50 [.int .i64 0, .int .i64 0, .int .i64 0, .int .u32 0, .int .i64 0, .int .i64 0, .int .i64 0] :: dG g3 3 [.int .i64 bE] :: dG g2 22 [.slice d9 l.length eu] :: dG g1 23 [.slice eB au.length eD] :: G)) [(10, 48, undef), (11, 49, undef), (12, 50, undef), (13, 51, undef), (14, 52, .bool true)] 0 (List.toArray [true, true, true, true, true, true, true, true, true, true, true, true, true, true, true]) (by kernel_rfl) Y Y Y ?_ zy ?_
   ·
    simp only [List.forall_mem_cons, List.not_mem_nil, false_implies, implies_true, and_true]
    refine ⟨?_, ?_, ?_, ?_, ?_⟩
    ·
     exact ⟨_, Y, Y, Y, Y, Qi.pass Y Y⟩
    ·
     exact ⟨_, Y, Y, Y, Y, Qi.pass Y Y⟩
    ·
     exact ⟨_, Y, Y, Y, Y, Qi.pass Y Y⟩
    ·
     exact ⟨_, Y, Y, Y, Y, Qi.pass Y Y⟩
    ·
     exact ⟨_, Y, Y, Y, Y, Qi.ev (fun _ hK => (Ev.bq Y Y))⟩
   intro ZK vG
   refine WI.dn (by kernel_rfl) ?_
   refine WP.aG Y (fun _h => ?_) (fun _h => absurd _h (by decide))
   refine WP.exit (aA.aF (aA.bS ?_))
   exact aA.rn ⟨Y, by refine I8 hno ?_; first | exact D8 Vi (by omega) | (unfold lg; rw [if_pos (by omega)])⟩ ((vG.rm s1).rm s0)
  | false =>
   have aeA := of_decide_eq_false aez
   refine WI.block (S := fun wK => Hp w S0 wK (dG NG 63 [.int .i64 x.2.ID, .int .i64 x.2.dA, .int .i64 x.2.fI, .int .i64 x.2.dz] :: dG Ya 63 [.int .i64 x.1.ID, .int .i64 x.1.dA, .int .i64 x.1.fI, .int .i64 x.1.dz] :: dG g5 50 [.int .i64 0, .int .i64 0, .int .i64 0, .int .u32 0, .int .i64 0, .int .i64 0, .int .i64 0] :: dG g6 130 [.slice yM ((bT au l ah).length) yN] :: aQ tNode 63 yg yj (aU l ah) :: aQ fO 173 yM yN (bT au l ah) :: dG g4 50 [.int .i64 0, .int .i64 0, .int .i64 0, .int .u32 0, .int .i64 0, .int .i64 0, .int .i64 0] :: dG g3 3 [.int .i64 bE] :: dG g2 22 [.slice d9 l.length eu] :: dG g1 23 [.slice eB au.length eD] :: G)) [(10, 48, .int .i64 (fJ (bT au l ah) x.2.ID)), (11, 49, .pointer (some ⟨NG, 2, none⟩)), (12, 50, .int .i64 x.2.fI), (13, 51, .bool (decide (x.2.fI ≤ fJ (bT au l ah) x.2.ID))), (14, 52, .bool (decide (x.2.fI ≤ fJ (bT au l ah) x.2.ID)))] 0 (List.toArray [true, true, true, true, true, true, true, true, true, true, true, true, true, true, true]) (by kernel_rfl) Y Y Y ?_ zy ?_
   ·
    simp only [List.forall_mem_cons, List.not_mem_nil, false_implies, implies_true, and_true]
    refine ⟨?_, ?_, ?_, ?_, ?_⟩
    ·
     exact ⟨_, Y, Y, Y, Y, Qi.bF Y (fun _ hK => (Ev.move Y))⟩
    ·
     exact ⟨_, Y, Y, Y, Y, Qi.bF Y (fun _ hK => (Ev.field (q := ⟨NG, 2, none⟩) pY Y Y))⟩
    ·
     exact ⟨_, Y, Y, Y, Y, Qi.bF Y (fun _ hK => (Ev.aj bf Y (hK.x s0) Y))⟩
    ·
     exact ⟨_, Y, Y, Y, Y, Qi.bF Y (fun _ hK => (Ev.geq Y Y))⟩
    ·
     exact ⟨_, Y, Y, Y, Y, Qi.ev (fun _ hK => (Ev.bn Y Y))⟩
   intro YR sJ
   refine WI.dn (by kernel_rfl) ?_
   refine WP.aG Y (fun D9 => ?_) (fun D9 => ?_)
   ·
    replace D9 := of_decide_eq_true D9
    refine WP.exit (aA.aF (aA.bS ?_))
    exact aA.rn ⟨Y, by refine I8 hno ?_; first | exact D8 Vi (by omega) | (unfold lg; rw [if_pos (by omega)])⟩ ((sJ.rm s1).rm s0)
   replace D9 := of_decide_eq_false D9
   refine WP.skip (aA.norm ?_)
   refine rg <| ev (Ev.aj nM Y (sJ.x s9) Y) <| ev (Ev.len Tryz.underlying23 Y) <| mv Y <| dn <| WP.block <| Lp sJ (fun l0 rk mJ lJ wJ => ∃ (k : Nat), lJ = (55, .int .i64 ((k : Nat) : Int)) :: l0 ∧ mJ = au.length - k ∧ k ≤ au.length ∧ (∀ c ∈ au.take k, jB c l x.1.ID x.2.ID = false) ∧ Hp w S0 wJ rk) ⟨0, Y, Y, Nat.zero_le _, by simp, sJ⟩ rfl ?_
   rintro _ _ ZL ⟨k, rfl, rfl, hk, Vi, yO⟩
   refine rg <| ev (Ev.lss Y Y) <| dn ?_
   refine WP.cond Y (fun Ea => ?_) (fun Ea => ?_)
   ·
    replace Ea := of_decide_eq_true Ea
    refine WP.skip (aA.norm ?_)
    refine WP.seq <| WP.block <| rg ?_
    obtain ⟨x1, hx1⟩ := get_some (xs := au) (i := k) (by omega)
    refine ev (Ev.index (i := k) Tryz.underlying23 gu Y Y Y (aC hx1) ((yO.a eF).some_ hx1)) ?_
    obtain ⟨B1, d1, kL, hi1⟩ := AChunk.op (eF.row hx1)
    refine ev (Ev.loadRow (cs := [.int .i64 x1.ID, .int .i64 x1.ay, .int .u32 x1.Sum, .slice B1 x1.av.length d1]) gQ Y Y (oJ (fun j u hu => yO.ext.cell (kL j u hu)))) ?_
    refine al iI Y yO fun g9 w23 Ag => ?_
    refine iW Y Y Y gu Ag s0 Y Y fun w24 yt => ?_
    refine dn <| rg <| ev (Ev.bX gQ Y Y (yt.x s0)) <| ev (Ev.aj lS Y (yt.x s9) Y) <| ev (Ev.field (q := ⟨Ya, 0, none⟩) dV Y Y) <| ev (Ev.aj bf Y (yt.x s2) Y) <| ev (Ev.field (q := ⟨NG, 0, none⟩) dV Y Y) <| ev (Ev.aj bf Y (yt.x s1) Y) ?_
    refine C0 yt Y Y Y abO (YL _ x1 (yt.a hi1).any (yt.a dN).any x.1.ID x.2.ID (by omega) (hh _ (bV hx1))) fun w25 yC => ?_
    refine dn ?_
    refine WP.aG Y (fun abT => ?_) (fun abT => ?_)
    ·
     refine rg <| ev (Ev.field (q := ⟨g9, 0, none⟩) gI Y Y) <| ev (Ev.aj bf Y (yC.x s0) Y) <| ev (Ev.field (q := ⟨g9, 1, none⟩) kZ Y Y) ?_
     refine ev (Ev.aj bf Y (yC.x s0) Y) <| ev (Ev.field (q := ⟨g9, 2, none⟩) rH Y Y) <| ev (Ev.aj BP Y (yC.x s0) Y) <| ev (Ev.field (q := ⟨Ya, 0, none⟩) dV Y Y) ?_
     refine ev (Ev.aj bf Y (yC.x s2) Y) <| ev (Ev.field (q := ⟨NG, 0, none⟩) dV Y Y) <| ev (Ev.aj bf Y (yC.x s1) Y) <| ev (Ev.build (vs := [(0, .int .i64 0), (1, .int .i64 x1.ID), (2, .int .i64 x1.ay), (3, .int .u32 x1.Sum), (4, .int .i64 x.1.ID), (5, .int .i64 x.2.ID)]) (cs := [.int .i64 0, .int .i64 x1.ID, .int .i64 x1.ay, .int .u32 x1.Sum, .int .i64 x.1.ID, .int .i64 x.2.ID, .int .i64 0]) Y (by apply nN)) ?_
     refine iW Y Y Y gW yC s3 Y Y fun w26 y8 => ?_
     refine dn ?_
     refine WP.exit (aA.sj Y (aA.aF (aA.aF (aA.sj Y (aA.sj Y ?_)))))
     exact aA.rx ⟨Y, x1.ID, x1.ay, x1.Sum, x.1.ID, x.2.ID, Y, by exact Vd hpre hno (RX (by rintro (h | h) <;> omega) Vi hx1 abT)⟩ (((y8.rm s3).rm s2).rm s1)
    refine WP.skip (aA.aS (aA.norm ?_))
    refine eP <| ev (Ev.add Y Y (eX.mk (by omega) (by omega))) <| mv Y <| eT ?_
    exact aA.ag ⟨(k + 1), Y, Y, by omega, by exact gP (q := fun c => jB c l x.1.ID x.2.ID = false) Vi hx1 abT, (yC.rm s0)⟩ rfl (by omega)
   replace Ea := of_decide_eq_false Ea
   refine WP.exit (aA.aF (aA.aF (aA.bS (aA.aS ?_))))
   exact aA.rn ⟨Y, by refine I8 hno ?_; first | exact D8 Vi (by omega) | (unfold lg; rw [if_pos (by omega)])⟩ ((yO.rm s1).rm s0)
 ·
  rintro D _ w27 ⟨rfl, hno⟩ zA
  refine aA.aS (aA.norm ?_)
  refine He zA (fun _ K => (K.rm s5)) (fun l0 rk lJ wJ => lJ = (9, .bool (decide (0 < 0))) :: l0 ∧ Hp w S0 wJ (dG g4 50 [.int .i64 0, .int .i64 0, .int .i64 0, .int .u32 0, .int .i64 0, .int .i64 0, .int .i64 0] :: rk)) (fun hns H2 => ?_) ?_
  ·
   have k1 := (H2.rm s5)
   refine Tn 0 1 hns Y (fun _ hK => Ev.bX jV Y Y (hK.x s1)) k1 <| Tn 1 3 hns Y (fun _ _ => Ev.field (q := ⟨g5, 1, none⟩) xK Y Y) k1 <| Tn 2 7 hns Y (fun _ hK => Ev.aj bf Y (hK.x s1) Y) k1 ?_
   refine Tn 3 15 hns Y (fun _ _ => Ev.gtr Y Y) k1 <| O1 4 Y ?_
   refine iW Y Y Y gW H2 s5 Y Y fun ZM yP => ?_
   have k2 := (yP.rm s0)
   refine WH.next k2 <| Ta 5 63 hns Y Y k2 ?_
   exact Dn ⟨Y, yP⟩ Y
  rintro _ ZN ⟨rfl, Bd⟩
  refine WP.ret (aA.N7 (aA.aa1 ((Bd.sel s0).sel s1) Y fun w30 Ah => ⟨_, ⟨_, _, Y, ⟨_, Y, eH (cs := [.int .i64 0, .int .i64 0, .int .i64 0, .int .u32 0, .int .i64 0, .int .i64 0, .int .i64 0]) jV Y (Ah.x s0)⟩, ⟨_, _, Y, Y, Y⟩⟩, ?_⟩))
  have jK : ((⟨0, 0, 0, 0, 0, 0, 0⟩ : AOrder) : AOrder) = (aV au l ah bE) := by unfold aV; rw [if_pos iX, show (nD au l ah).findSome? (lg au l (bT au l ah) bE) = none from List.findSome?_eq_none_iff.2 hno]; rfl
  have hq11 : (0 : Int) = (aV au l ah bE).Kind := by rw [← jK]
  have hq12 : (0 : Int) = (aV au l ah bE).aB := by rw [← jK]
  have qY : (0 : Int) = (aV au l ah bE).ay := by rw [← jK]
  have Bf : (0 : Int) = (aV au l ah bE).Sum := by rw [← jK]
  have Eb : (0 : Int) = (aV au l ah bE).dw := by rw [← jK]
  have Ec : (0 : Int) = (aV au l ah bE).To := by rw [← jK]
  have Ed : (0 : Int) = (aV au l ah bE).dQ := by rw [← jK]
  have CQ : (decide (0 < 0) : Bool) = (moveB au l ah bE) := by unfold moveB aV; rw [if_pos iX, show (nD au l ah).findSome? (lg au l (bT au l ah) bE) = none from List.findSome?_eq_none_iff.2 hno]; rfl
  exact ⟨by rw [CQ, ← hq11, ← hq12, ← qY, ← Bf, ← Eb, ← Ec, ← Ed] <;> rfl, Ah.z⟩
 ·
  rintro D c pre F w31 (⟨rfl, oc, ov, os, of_, ot, rfl, hfs⟩) F4
  refine WP.exit (aA.bS (aA.norm ?_))
  refine He F4 (fun _ K => (K.rm s5)) (fun l0 rk lJ wJ => lJ = (9, .bool (decide (0 < oc))) :: l0 ∧ Hp w S0 wJ (dG g4 50 [.int .i64 0, .int .i64 oc, .int .i64 ov, .int .u32 os, .int .i64 of_, .int .i64 ot, .int .i64 0] :: rk)) (fun hns H3 => ?_) ?_
  ·
   have k3 := (H3.rm s5)
   refine Tn 0 1 hns Y (fun _ hK => Ev.bX jV Y Y (hK.x s1)) k3 <| Tn 1 3 hns Y (fun _ _ => Ev.field (q := ⟨g5, 1, none⟩) xK Y Y) k3 <| Tn 2 7 hns Y (fun _ hK => Ev.aj bf Y (hK.x s1) Y) k3 ?_
   refine Tn 3 15 hns Y (fun _ _ => Ev.gtr Y Y) k3 <| O1 4 Y ?_
   refine iW Y Y Y gW H3 s5 Y Y fun w32 FM => ?_
   have k4 := (FM.rm s0)
   refine WH.next k4 <| Ta 5 63 hns Y Y k4 ?_
   exact Dn ⟨Y, FM⟩ Y
  rintro _ w33 ⟨rfl, Oo⟩
  refine WP.ret (aA.N7 (aA.aa1 ((Oo.sel s0).sel s1) Y fun w34 Oq => ⟨_, ⟨_, _, Y, ⟨_, Y, eH (cs := [.int .i64 0, .int .i64 oc, .int .i64 ov, .int .u32 os, .int .i64 of_, .int .i64 ot, .int .i64 0]) jV Y (Oq.x s0)⟩, ⟨_, _, Y, Y, Y⟩⟩, ?_⟩))
  have Bg : ((⟨0, oc, ov, os, of_, ot, 0⟩ : AOrder) : AOrder) = (aV au l ah bE) := by unfold aV; rw [if_pos iX, hfs]; rfl
  have Lh : (0 : Int) = (aV au l ah bE).Kind := by rw [← Bg]
  have Ot : (oc : Int) = (aV au l ah bE).aB := by rw [← Bg]
  have R3 : (ov : Int) = (aV au l ah bE).ay := by rw [← Bg]
  have Ou : (os : Int) = (aV au l ah bE).Sum := by rw [← Bg]
  have Lj : (of_ : Int) = (aV au l ah bE).dw := by rw [← Bg]
  have Ov : (ot : Int) = (aV au l ah bE).To := by rw [← Bg]
  have Ll : (0 : Int) = (aV au l ah bE).dQ := by rw [← Bg]
  have Ox : (decide (0 < oc) : Bool) = (moveB au l ah bE) := by unfold moveB aV; rw [if_pos iX, hfs]; rfl
  exact ⟨by rw [Ox, ← Lh, ← Ot, ← R3, ← Ou, ← Lj, ← Ov, ← Ll] <;> rfl, Oq.z⟩
end Go.Proofs.YtjcklpooaaaglaaGreat
set_option maxRecDepth 4000
set_option linter.all false
namespace Go.Proofs.YtjcklpooaaaglaaGreat
open Go.RowKit
structure ALease where
  aB : Int
  ay : Int
  dw : Int
  To : Int
  dQ : Int
  deriving DecidableEq
def ALease.enc (x : ALease) : List Value := [.int .i64 x.aB, .int .i64 x.ay, .int .i64 x.dw, .int .i64 x.To, .int .i64 x.dQ]
theorem ALease.iB (x : ALease) : ∀ u ∈ x.enc, u.oneCell' = true := by
  intro u hu
  simp only [ALease.enc, List.mem_cons, List.not_mem_nil, or_false] at hu
  rcases hu with rfl | rfl | rfl | rfl | rfl <;> rfl
def ALease.wf (x : ALease) : Prop := InI64 x.aB ∧ InI64 x.ay ∧ InI64 x.dw ∧ InI64 x.To ∧ InI64 x.dQ
def tLease : Ty ALease := Ty.flat 5 ALease.enc (by decide) (fun _ => rfl) ALease.iB
instance : Flat tLease := ⟨fun h => h⟩
def jR (n : Int) : Bool := decide (1 ≤ n) && decide (n ≤ 16)
def qZ (x : ALease) : Bool := jR x.dw && jR x.To && !decide (x.dw = x.To) && decide (1 ≤ x.aB) && decide (1 ≤ x.ay) && decide (0 ≤ x.dQ) && decide (x.dQ ≤ 1099511627776)
def sends (l : List ALease) (id : Int) : Nat := l.countP fun x => decide (x.dw = id)
def takes (l : List ALease) (id : Int) : Nat := l.countP fun x => decide (x.To = id)
theorem lT {l : List ALease} {k : Nat} {x : ALease} (h : l[k]? = some x) (id : Int) : sends (l.take (k + 1)) id = sends (l.take k) id + if x.dw = id then 1 else 0 := by
  rw [dK h]; simp [sends, List.countP_append, List.countP_cons]
theorem lU {l : List ALease} {k : Nat} {x : ALease} (h : l[k]? = some x) (id : Int) : takes (l.take (k + 1)) id = takes (l.take k) id + if x.To = id then 1 else 0 := by
  rw [dK h]; simp [takes, List.countP_append, List.countP_cons]
theorem qJ (l : List ALease) (id : Int) : sends l id ≤ l.length := List.countP_le_length
theorem wO (l : List ALease) (id : Int) : takes l id ≤ l.length := List.countP_le_length
theorem nE (l : List ALease) (k : Nat) (id : Int) : sends (l.take k) id ≤ k := Nat.le_trans (qJ _ _) (by simp only [List.length_take]; omega)
theorem nG (l : List ALease) (k : Nat) (id : Int) : takes (l.take k) id ≤ k := Nat.le_trans (wO _ _) (by simp only [List.length_take]; omega)
def rJ (l : List ALease) (dJ to : Int) : Int := idxOf (fun x => decide (x.aB = dJ) && decide (x.To = to)) l
def gH (l : List ALease) (x : ALease) (bg all : Int) : Int :=
  if qZ x = false then 1 else if 0 ≤ rJ l x.aB x.To then 6 else if all ≤ l.length ∨ bg ≤ sends l x.dw ∨ bg ≤ takes l x.To then 7 else 0
def gB (l : List ALease) (x : ALease) (bg all : Int) : List ALease := if gH l x bg all = 0 then l ++ [x] else []
def sQ (now : Int) (x : ALease) : Bool := !decide (x.dQ < now)
def nH (now : Int) (x : ALease) : Bool := decide (x.dQ < now)
theorem iE {α : Type} {p : α → Bool} {xs : List α} {k : Nat} {x : α} (h : xs[k]? = some x) : (xs.take (k + 1)).filter p = (xs.take k).filter p ++ if p x then [x] else [] := by
  rw [dK h, List.filter_append]
  cases hp : p x <;> simp [hp]
theorem nX {α : Type} (p : α → Bool) (xs : List α) (k : Nat) : ((xs.take k).filter p).length ≤ k := Nat.le_trans (List.length_filter_le _ _) (by simp only [List.length_take]; omega)
def oM (l : List ALease) (bg n : Int) : Bool := decide ((sends l n : Int) < bg)
def lV (l : List ALease) (ak : List Int) (bg : Int) : Int := match ak.find? (oM l bg) with | some n => n | none => 0
def lq (l : List ALease) (ak : List Int) (bg : Int) : Bool := (ak.find? (oM l bg)).isSome
theorem oN {α : Type} {p : α → Bool} : ∀ {xs : List α} {k : Nat} {x : α}, (∀ y ∈ xs.take k, p y = false) → xs[k]? = some x → p x = true → xs.find? p = some x
  | [], k, x, _, h, _ => by simp at h
  | y :: xs, 0, x, _, h, hp => by simp at h; subst h; simp [List.find?, hp]
  | y :: xs, k + 1, x, h0, h, hp => by
    have h1 := h0 y (by simp)
    have h2 := oN (p := p) (xs := xs) (k := k) (x := x) (fun z hz => h0 z (by simp [hz])) (by simpa using h) hp
    simp [List.find?, h1, h2]
theorem qK {α : Type} {p : α → Bool} {xs : List α} (h : ∀ y ∈ xs, p y = false) : xs.find? p = none := by
  rw [List.find?_eq_none]; intro x hx; simp [h x hx]
theorem qc : dL Tryz.prog 77 2 2 := fun _ _ => by kernel_rfl
theorem Vj : aM Tryz.prog 123 := fun _ _ => by kernel_rfl
theorem jl : dL Tryz.prog 77 3 3 := fun _ _ => by kernel_rfl
theorem rM : dL Tryz.prog 77 0 0 := fun _ _ => by kernel_rfl
theorem Qn : dL Tryz.prog 77 1 1 := fun _ _ => by kernel_rfl
theorem uK : dL Tryz.prog 77 4 4 := fun _ _ => by kernel_rfl
theorem lu : Size Tryz.prog 77 5 := fun _ => by kernel_rfl
theorem pK : NT Tryz.prog 77 5 := ⟨fun _ => by kernel_rfl, lu⟩
theorem zB : ∀ w, (zeroValue 77).run Tryz.prog w = .ok (.agg #[.int .i64 0, .int .i64 0, .int .i64 0, .int .i64 0, .int .i64 0]) w := fun _ => by kernel_rfl
theorem Vk : aM Tryz.prog 122 := fun _ _ => by kernel_rfl
theorem abY : aM Tryz.prog 125 := fun _ _ => by kernel_rfl
theorem abZ : aM Tryz.prog 124 := fun _ _ => by kernel_rfl
theorem Vl  : ∀ w, (Instr.buildSlice 28 0 (List.toArray [])).run Tryz.prog w = .ok (.slice (some ⟨w.heap.size, 0, none⟩) 0 0) (w.alloc (.cells (List.toArray []) 77)) := fun _ => by kernel_rfl
theorem BQ : je Tryz.prog 77 5 40 := by
  obtain ⟨i, h1, h2, h3, h4⟩ := info_parts (show (Tryz.prog.info? 77).map (fun i => (i.zero, i.size, i.bytes)) = some (some (.agg #[.int .i64 0, .int .i64 0, .int .i64 0, .int .i64 0, .int .i64 0]), 5, 40) by kernel_rfl)
  exact ⟨i, _, h1, h2, h3, h4, Y⟩
theorem ZO : aM Tryz.prog 75 := fun _ _ => by kernel_rfl
theorem aeB : aM Tryz.prog 76 := fun _ _ => by kernel_rfl
theorem aeC : aM Tryz.prog 77 := fun _ _ => by kernel_rfl
theorem Vm : aM Tryz.prog 37 := fun _ _ => by kernel_rfl
theorem jY (a0 : Int) (a1 : Int) (a2 : Int) (a3 : Int) (a4 : Int) : ∀ w, (Instr.buildSlice 28 1 (List.toArray [(0, .agg #[.int .i64 a0, .int .i64 a1, .int .i64 a2, .int .i64 a3, .int .i64 a4])])).run Tryz.prog w = .ok (.slice (some ⟨w.heap.size, 0, none⟩) 1 1) (w.alloc (.cells (List.toArray [.int .i64 a0, .int .i64 a1, .int .i64 a2, .int .i64 a3, .int .i64 a4]) 77)) := fun _ => by kernel_rfl
theorem GY {S0 : Nat → Prop} (w : World) (id : Int) :
    bY Tryz.prog 123 #[.int .i64 id] w fun v w' => v = .bool (jR id) ∧ Hp w S0 w' [] := by
 refine WP.enter Tryz.func123 Y Tryz.ntmps123 Y ?_
 have H0 := Hp.init w S0
 refine rg <| aR Y <| dn <| rg <| mv Y <| ev (Ev.geq Y Y) <| mv Y ?_
 refine WL.dR 3 8 ((decide (1 ≤ id)) && (decide (id ≤ 16))) ?_ ?_
 ·
  cases hb5 : decide (1 ≤ id) with
  | true =>
   have al3 := of_decide_eq_true hb5
   refine WL.bF Y (Ev.move Y) Y <| WL.bF Y (Ev.leq Y Y) Y <| ev (Ev.bq Y Y) ?_
   exact WL.bM Y
  | false =>
   refine WL.pass Y Y Y <| WL.pass Y Y Y <| ev (Ev.bn Y Y) ?_
   exact WL.bM Y
 refine aR Y <| dn ?_
 refine WP.ret (aA.aD Y Y Y ?_)
 have hq1 : (((decide (1 ≤ id)) && (decide (id ≤ 16))) : Bool) = (jR id) := by rfl
 exact ⟨by rw [hq1] <;> rfl, H0⟩
theorem Vn {S0 : Nat → Prop} (w : World) (x : ALease) :
    bY Tryz.prog 76 #[.agg #[.int .i64 x.aB, .int .i64 x.ay, .int .i64 x.dw, .int .i64 x.To, .int .i64 x.dQ]] w fun v w' => v = .bool (qZ x) ∧ Hp w S0 w' [] := by
 refine WP.enter Tryz.func76 Y Tryz.ntmps76 Y ?_
 have H0 := Hp.init w S0
 refine rg ?_
 refine bx Y Y H0 fun g1 w1 K1 => ?_
 refine aR Y <| dn <| rg <| ev (Ev.field (q := ⟨g1, 2, none⟩) qc Y Y) <| ev (Ev.aj bf Y (K1.x s0) Y) ?_
 refine C0 K1 Y Y Y Vj (GY (S0 := Any) _ x.dw) fun w2 K2 => ?_
 refine mv Y ?_
 refine WL.oI 4 10 ((jR x.dw) && (jR x.To)) ?_ ?_
 ·
  cases hb6 : jR x.dw with
  | true =>
   refine WL.bF Y (Ev.field (q := ⟨g1, 3, none⟩) jl Y Y) Y <| WL.bF Y (Ev.aj bf Y (K2.x s0) Y) Y <| WL.jd Y Y Y Y Vj (GY (S0 := Any) _ x.To) Y ?_
   rintro _ w3 ⟨rfl, h3⟩
   have K3 := K2.c0 h3
   refine ev (Ev.bq Y Y) ?_
   exact WL.iY Y h3.ext
  | false =>
   refine WL.pass Y Y Y <| WL.pass Y Y Y <| WL.pass Y Y Y <| ev (Ev.bn Y Y) ?_
   exact WL.iY Y (Ext.refl _)
 intro w4 e4
 have K4 := K2.grow e4
 refine mv Y ?_
 refine WL.dR 6 17 (((jR x.dw) && (jR x.To)) && (!decide (x.dw = x.To))) ?_ ?_
 ·
  cases AX : ((jR x.dw) && (jR x.To)) with
  | true =>
   have tJ := AX
   try simp only [Bool.and_eq_true, Bool.and_eq_false_imp, decide_eq_true_eq, decide_eq_false_iff_not] at tJ
   refine WL.bF Y (Ev.field (q := ⟨g1, 2, none⟩) qc Y Y) Y <| WL.bF Y (Ev.aj bf Y (K4.x s0) Y) Y <| WL.bF Y (Ev.field (q := ⟨g1, 3, none⟩) jl Y Y) Y ?_
   refine WL.bF Y (Ev.aj bf Y (K4.x s0) Y) Y <| WL.bF Y (Ev.neq Y Y) Y <| ev (Ev.bq Y Y) ?_
   exact WL.bM Y
  | false =>
   refine WL.pass Y Y Y <| WL.pass Y Y Y <| WL.pass Y Y Y <| WL.pass Y Y Y <| WL.pass Y Y Y <| ev (Ev.bn Y Y) ?_
   exact WL.bM Y
 refine mv Y ?_
 refine WL.dR 4 22 ((((jR x.dw) && (jR x.To)) && (!decide (x.dw = x.To))) && (decide (1 ≤ x.aB))) ?_ ?_
 ·
  cases UD : (((jR x.dw) && (jR x.To)) && (!decide (x.dw = x.To))) with
  | true =>
   have ZE := UD
   try simp only [an4, an5, an6, an7, an8, an9, aoa, aob] at ZE
   refine WL.bF Y (Ev.field (q := ⟨g1, 0, none⟩) rM Y Y) Y <| WL.bF Y (Ev.aj bf Y (K4.x s0) Y) Y <| WL.bF Y (Ev.geq Y Y) Y ?_
   refine ev (Ev.bq Y Y) ?_
   exact WL.bM Y
  | false =>
   refine WL.pass Y Y Y <| WL.pass Y Y Y <| WL.pass Y Y Y <| ev (Ev.bn Y Y) ?_
   exact WL.bM Y
 refine mv Y ?_
 refine WL.dR 4 27 (((((jR x.dw) && (jR x.To)) && (!decide (x.dw = x.To))) && (decide (1 ≤ x.aB))) && (decide (1 ≤ x.ay))) ?_ ?_
 ·
  cases ab0 : ((((jR x.dw) && (jR x.To)) && (!decide (x.dw = x.To))) && (decide (1 ≤ x.aB))) with
  | true =>
   have Vo := ab0
   try simp only [an4, an5, an6, an7, an8, an9, aoa, aob] at Vo
   refine WL.bF Y (Ev.field (q := ⟨g1, 1, none⟩) Qn Y Y) Y <| WL.bF Y (Ev.aj bf Y (K4.x s0) Y) Y <| WL.bF Y (Ev.geq Y Y) Y ?_
   refine ev (Ev.bq Y Y) ?_
   exact WL.bM Y
  | false =>
   refine WL.pass Y Y Y <| WL.pass Y Y Y <| WL.pass Y Y Y <| ev (Ev.bn Y Y) ?_
   exact WL.bM Y
 refine mv Y ?_
 refine WL.dR 4 32 ((((((jR x.dw) && (jR x.To)) && (!decide (x.dw = x.To))) && (decide (1 ≤ x.aB))) && (decide (1 ≤ x.ay))) && (decide (0 ≤ x.dQ))) ?_ ?_
 ·
  cases Lm : (((((jR x.dw) && (jR x.To)) && (!decide (x.dw = x.To))) && (decide (1 ≤ x.aB))) && (decide (1 ≤ x.ay))) with
  | true =>
   have GZ := Lm
   try simp only [an4, an5, an6, an7, an8, an9, aoa, aob] at GZ
   refine WL.bF Y (Ev.field (q := ⟨g1, 4, none⟩) uK Y Y) Y <| WL.bF Y (Ev.aj bf Y (K4.x s0) Y) Y <| WL.bF Y (Ev.geq Y Y) Y ?_
   refine ev (Ev.bq Y Y) ?_
   exact WL.bM Y
  | false =>
   refine WL.pass Y Y Y <| WL.pass Y Y Y <| WL.pass Y Y Y <| ev (Ev.bn Y Y) ?_
   exact WL.bM Y
 refine mv Y ?_
 refine WL.dR 4 37 (((((((jR x.dw) && (jR x.To)) && (!decide (x.dw = x.To))) && (decide (1 ≤ x.aB))) && (decide (1 ≤ x.ay))) && (decide (0 ≤ x.dQ))) && (decide (x.dQ ≤ 1099511627776))) ?_ ?_
 ·
  cases CS : ((((((jR x.dw) && (jR x.To)) && (!decide (x.dw = x.To))) && (decide (1 ≤ x.aB))) && (decide (1 ≤ x.ay))) && (decide (0 ≤ x.dQ))) with
  | true =>
   have Lr := CS
   try simp only [an4, an5, an6, an7, an8, an9, aoa, aob] at Lr
   refine WL.bF Y (Ev.field (q := ⟨g1, 4, none⟩) uK Y Y) Y <| WL.bF Y (Ev.aj bf Y (K4.x s0) Y) Y <| WL.bF Y (Ev.leq Y Y) Y ?_
   refine ev (Ev.bq Y Y) ?_
   exact WL.bM Y
  | false =>
   refine WL.pass Y Y Y <| WL.pass Y Y Y <| WL.pass Y Y Y <| ev (Ev.bn Y Y) ?_
   exact WL.bM Y
 refine aR Y <| dn ?_
 refine WP.ret (aA.aD Y Y Y ?_)
 have hq1 : ((((((((jR x.dw) && (jR x.To)) && (!decide (x.dw = x.To))) && (decide (1 ≤ x.aB))) && (decide (1 ≤ x.ay))) && (decide (0 ≤ x.dQ))) && (decide (x.dQ ≤ 1099511627776))) : Bool) = (qZ x) := by rfl
 exact ⟨by rw [hq1] <;> rfl, (K4.rm s0)⟩
theorem zC {S0 : Nat → Prop} (w : World) {d9 : an3} {eu : Nat} {l : List ALease} (dN : Sl tLease S0 w d9 eu l) (id : Int) (hn : l.length ≤ 100) :
    bY Tryz.prog 122 #[.slice d9 l.length eu, .int .i64 id] w fun v w' => v = .complex .f64 (fb (sends l id)) (fb (takes l id)) ∧ Hp w S0 w' [] := by
 refine WP.enter Tryz.func122 Y Tryz.ntmps122 Y ?_
 have H0 := Hp.init w S0
 have iJ := dN.aN
 refine rg <| aR Y <| dn <| rg <| aR Y <| dn <| WP.seq <| rg <| mv Y <| ev (Ev.len Tryz.underlying28 Y) <| mv Y <| dn <| WP.block ?_
 have hq1 : (.complex .f64 0 0 : Value) = .complex .f64 (fb (sends (l.take 0) id)) (fb (takes (l.take 0) id)) := by simp [sends, takes, fb, PZ]
 refine WP.re (t := 5) Y hq1 ?_
 have hq2 : (0 : Int) = ((0 : Nat) : Int) := by simp
 refine WP.re (t := 10) Y (congrArg (Value.int .i64) hq2) <| WP.lp (fun mJ lJ wJ => ∃ (k : Nat), lJ = [(1, .int .i64 id), (5, .complex .f64 (fb (sends (l.take k) id)) (fb (takes (l.take k) id))), (8, .slice d9 l.length eu), (9, .int .i64 ((l.length : Nat) : Int)), (10, .int .i64 ((k : Nat) : Int))] ∧ mJ = l.length - k ∧ k ≤ l.length ∧ Hp w S0 wJ []) ⟨0, Y, Y, Nat.zero_le _, H0⟩ Y ?_
 rintro _ _ w1 ⟨k, rfl, rfl, hk, K1⟩
 refine rg <| ev (Ev.lss Y Y) <| dn ?_
 refine WP.cond Y (fun fK => ?_) (fun fK => ?_)
 ·
  replace fK := of_decide_eq_true fK
  refine WP.skip (aA.norm ?_)
  refine WP.seq <| WP.block <| rg ?_
  obtain ⟨x1, hx1⟩ := get_some (xs := l) (i := k) (by omega)
  refine ev (Ev.index (i := k) Tryz.underlying28 lu Y Y Y (aC hx1) ((K1.a dN).some_ hx1)) <| ev (Ev.loadRow pK Y Y ((K1.a dN).dx hx1)) ?_
  refine al zB Y K1 fun g1 w2 K2 => ?_
  refine iW Y Y Y lu K2 s0 Y Y fun w3 K3 => ?_
  refine dn <| WP.seq <| rg <| ev (Ev.field (q := ⟨g1, 2, none⟩) qc Y Y) <| ev (Ev.aj bf Y (K3.x s0) Y) <| mv Y <| ev (Ev.eql Y Y) <| dn ?_
  refine WP.aG Y (fun hc17 => ?_) (fun hc17 => ?_)
  ·
   replace hc17 := of_decide_eq_true hc17
   refine eP <| mv Y <| ev (Ev.Ym Y Y (II _ (by have := nE l k id; have := nG l k id; omega)) (CX _ (by have := nE l k id; have := nG l k id; omega))) ?_
   refine aR Y <| eT <| aA.norm <| rg <| ev (Ev.field (q := ⟨g1, 3, none⟩) jl Y Y) <| ev (Ev.aj bf Y (K3.x s0) Y) <| mv Y <| ev (Ev.eql Y Y) <| dn ?_
   refine WP.aG Y (fun jS => ?_) (fun jS => ?_)
   ·
    replace jS := of_decide_eq_true jS
    refine eP <| mv Y <| ev (Ev.Ym Y Y (CX _ (by have := nE l k id; have := nG l k id; omega)) (II _ (by have := nE l k id; have := nG l k id; omega))) ?_
    refine aR Y <| eT ?_
    refine aA.aS (aA.norm ?_)
    refine eP <| ev (Ev.add Y Y (eX.mk (by omega) (by omega))) <| mv Y <| eT ?_
    have hq3 : (.complex .f64 (fb (sends (l.take k) id + 1)) (fb (takes (l.take k) id + 1)) : Value) = .complex .f64 (fb (sends (l.take (k + 1)) id)) (fb (takes (l.take (k + 1)) id)) := by rw [lT hx1, lU hx1]; simp [hc17, jS]
    refine aA.re (t := 5) Y hq3 ?_
    have hq4 : (((k + 1 : Nat) : Int) : Int) = (((k + 1) : Nat) : Int) := by simp
    refine aA.re (t := 10) Y (congrArg (Value.int .i64) hq4) ?_
    exact aA.ag ⟨(k + 1), Y, Y, by omega, (K3.rm s0)⟩ rfl (by omega)
   replace jS := of_decide_eq_false jS
   refine WP.skip (aA.aS (aA.norm ?_))
   refine eP <| ev (Ev.add Y Y (eX.mk (by omega) (by omega))) <| mv Y <| eT ?_
   have kP : (.complex .f64 (fb (sends (l.take k) id + 1)) (fb (takes (l.take k) id)) : Value) = .complex .f64 (fb (sends (l.take (k + 1)) id)) (fb (takes (l.take (k + 1)) id)) := by rw [lT hx1, lU hx1]; simp [hc17, jS]
   refine aA.re (t := 5) Y kP ?_
   have ny : (((k + 1 : Nat) : Int) : Int) = (((k + 1) : Nat) : Int) := by simp
   refine aA.re (t := 10) Y (congrArg (Value.int .i64) ny) ?_
   exact aA.ag ⟨(k + 1), Y, Y, by omega, (K3.rm s0)⟩ rfl (by omega)
  replace hc17 := of_decide_eq_false hc17
  refine WP.skip (aA.norm ?_)
  refine rg <| ev (Ev.field (q := ⟨g1, 3, none⟩) jl Y Y) <| ev (Ev.aj bf Y (K3.x s0) Y) <| mv Y <| ev (Ev.eql Y Y) <| dn ?_
  refine WP.aG Y (fun jS => ?_) (fun jS => ?_)
  ·
   replace jS := of_decide_eq_true jS
   refine eP <| mv Y <| ev (Ev.Ym Y Y (CX _ (by have := nE l k id; have := nG l k id; omega)) (II _ (by have := nE l k id; have := nG l k id; omega))) ?_
   refine aR Y <| eT ?_
   refine aA.aS (aA.norm ?_)
   refine eP <| ev (Ev.add Y Y (eX.mk (by omega) (by omega))) <| mv Y <| eT ?_
   have kT : (.complex .f64 (fb (sends (l.take k) id)) (fb (takes (l.take k) id + 1)) : Value) = .complex .f64 (fb (sends (l.take (k + 1)) id)) (fb (takes (l.take (k + 1)) id)) := by rw [lT hx1, lU hx1]; simp [hc17, jS]
   refine aA.re (t := 5) Y kT ?_
   have hq8 : (((k + 1 : Nat) : Int) : Int) = (((k + 1) : Nat) : Int) := by simp
   refine aA.re (t := 10) Y (congrArg (Value.int .i64) hq8) ?_
   exact aA.ag ⟨(k + 1), Y, Y, by omega, (K3.rm s0)⟩ rfl (by omega)
  replace jS := of_decide_eq_false jS
  refine WP.skip (aA.aS (aA.norm ?_))
  refine eP <| ev (Ev.add Y Y (eX.mk (by omega) (by omega))) <| mv Y <| eT ?_
  have uj : (.complex .f64 (fb (sends (l.take k) id)) (fb (takes (l.take k) id)) : Value) = .complex .f64 (fb (sends (l.take (k + 1)) id)) (fb (takes (l.take (k + 1)) id)) := by rw [lT hx1, lU hx1]; simp [hc17, jS]
  refine aA.re (t := 5) Y uj ?_
  have jK : (((k + 1 : Nat) : Int) : Int) = (((k + 1) : Nat) : Int) := by simp
  refine aA.re (t := 10) Y (congrArg (Value.int .i64) jK) ?_
  exact aA.ag ⟨(k + 1), Y, Y, by omega, (K3.rm s0)⟩ rfl (by omega)
 replace fK := of_decide_eq_false fK
 refine WP.exit (aA.aF (aA.aF (aA.bS (aA.norm ?_))))
 refine rg <| mv Y <| aR Y <| dn ?_
 refine WP.ret (aA.aD Y Y Y ?_)
 have hq11 : (.complex .f64 (fb (sends (l.take k) id)) (fb (takes (l.take k) id)) : Value) = (.complex .f64 (fb (sends l id)) (fb (takes l id))) := by rw [List.take_of_length_le (by omega)]
 exact ⟨by rw [hq11] <;> rfl, K1⟩
theorem Ee {S0 : Nat → Prop} (w : World) {d9 : an3} {eu : Nat} {l : List ALease} (dN : Sl tLease S0 w d9 eu l) (id : Int) (hn : l.length ≤ 100) :
    bY Tryz.prog 75 #[.slice d9 l.length eu, .int .i64 id] w fun v w' => v = .tuple #[.int .i64 ((sends l id : Nat) : Int), .int .i64 ((takes l id : Nat) : Int)] ∧ Hp w S0 w' [] := by
 refine WP.enter Tryz.func75 Y Tryz.ntmps75 Y ?_
 have H0 := Hp.init w S0
 have iJ := dN.aN
 refine rg <| aR Y <| aR Y <| dn <| rg <| mv Y <| mv Y ?_
 refine C0 H0 Y Y Y Vk (zC _ (H0.a dN).any id (by omega)) fun w1 K1 => ?_
 refine aR Y <| dn <| rg <| mv Y <| ev (Ev.real Y) <| ev (Ev.ad2 ⟨_, Tryz.underlying156⟩ Tryz.underlying3 Y (Uc _ (by have := qJ l id; have := wO l id; omega)) (by have := qJ l id; have := wO l id; omega)) <| mv rfl <| ev (Ev.imag rfl) <| ev (Ev.ad2 ⟨_, Tryz.underlying156⟩ Tryz.underlying3 rfl (Uc _ (by have := qJ l id; have := wO l id; omega)) (by have := qJ l id; have := wO l id; omega)) <| aR rfl <| aR rfl <| dn ?_
 refine WP.ret (aA.aD Y Y Y ?_)
 exact ⟨Y, K1⟩
theorem zD {S0 : Nat → Prop} (w : World) {qE : an3} {qF : Nat} {s : List ALease} (j3 : Sl tLease S0 w qE qF s) {Aw : FuncId} {Az : List Value} (Oa : aM Tryz.prog Aw) (f : ALease → Bool) (Ob : ∀ (w' : World) (x : ALease), Ext w w' → x ∈ s → bY Tryz.prog Aw (([.agg #[.int .i64 x.aB, .int .i64 x.ay, .int .i64 x.dw, .int .i64 x.To, .int .i64 x.dQ]] : List Value) ++ Az).toArray w' fun v w'' => v = .bool (f x) ∧ Ext w' w'') :
    bY Tryz.prog 124 #[.slice qE s.length qF, .func (.func Aw) #[] Az.toArray] w fun v w' => v = .int .i64 (idxOf f s) ∧ Hp w S0 w' [] := by
 refine WP.enter Tryz.func124 Y Tryz.ntmps124 Y ?_
 have H0 := Hp.init w S0
 have yH := j3.aN
 refine rg <| aR Y <| dn <| WP.seq <| rg <| mv Y <| ev (Ev.len Tryz.underlying28 Y) <| mv Y <| dn <| WP.block <| Lp H0 (fun l0 rk mJ lJ wJ => ∃ (k : Nat), lJ = (8, .int .i64 ((k : Nat) : Int)) :: l0 ∧ mJ = s.length - k ∧ k ≤ s.length ∧ (∀ y ∈ s.take k, f y = false) ∧ Hp w S0 wJ rk) ⟨0, Y, Y, Nat.zero_le _, by simp, H0⟩ rfl ?_
 rintro _ _ w1 ⟨k, rfl, rfl, hk, hno, K1⟩
 refine rg <| ev (Ev.lss Y Y) <| dn ?_
 refine WP.cond Y (fun jE => ?_) (fun jE => ?_)
 ·
  replace jE := of_decide_eq_true jE
  refine WP.skip (aA.norm ?_)
  refine WP.seq <| WP.block <| rg <| mv Y <| aR Y <| dn <| rg <| mv Y <| mv Y <| mv Y ?_
  obtain ⟨x1, hx1⟩ := get_some (xs := s) (i := k) (by omega)
  refine ev (Ev.index (i := k) Tryz.underlying28 lu Y Y Y (aC hx1) ((K1.a j3).some_ hx1)) <| ev (Ev.loadRow pK Y Y ((K1.a j3).dx hx1)) ?_
  refine WL.call Y Y Y Oa (Ob _ x1 K1.ext (bV hx1)) Y ?_
  rintro _ w2 ⟨rfl, e2⟩
  have K2 := K1.grow e2
  refine dn ?_
  refine WP.aG Y (fun hc16 => ?_) (fun hc16 => ?_)
  ·
   refine rg <| mv Y <| aR Y <| dn ?_
   refine WP.ret (aA.bW (aA.aP (aA.aP (aA.bW (aA.aP (aA.aD Y Y Y ?_))))))
   have hq1 : (((k : Nat) : Int) : Int) = (idxOf f s) := by exact (jU hno hx1 hc16).symm
   exact ⟨by rw [hq1] <;> rfl, K2⟩
  refine WP.skip (aA.aS (aA.norm ?_))
  refine eP <| ev (Ev.add Y Y (eX.mk (by omega) (by omega))) <| mv Y <| eT ?_
  exact aA.ag ⟨(k + 1), Y, Y, by omega, by exact gP (q := fun y => f y = false) hno hx1 hc16, K2⟩ rfl (by omega)
 replace jE := of_decide_eq_false jE
 refine WP.exit (aA.aF (aA.aF (aA.bS (aA.norm ?_))))
 refine rg <| aR Y <| dn ?_
 refine WP.ret (aA.aD Y Y Y ?_)
 have hq2 : ((-1) : Int) = (idxOf f s) := by exact (kI (jf hno (by omega))).symm
 exact ⟨by rw [← hq2] <;> rfl, K1⟩
theorem Oy {S0 : Nat → Prop} (w : World) (x : ALease) {Qo : Nat} (dJ : Int) (YS : Bx w Qo 3 [.int .i64 dJ]) {ZP : Nat} (dM : Int) (aeD : Bx w ZP 3 [.int .i64 dM]) :
    bY Tryz.prog 125 #[.agg #[.int .i64 x.aB, .int .i64 x.ay, .int .i64 x.dw, .int .i64 x.To, .int .i64 x.dQ], .pointer (some ⟨Qo, 0, none⟩), .pointer (some ⟨ZP, 0, none⟩)] w fun v w' => v = .bool (decide (x.aB = dJ) && decide (x.To = dM)) ∧ Hp w S0 w' [] := by
 refine WP.enter Tryz.func125 Y Tryz.ntmps125 Y ?_
 have H0 := Hp.init w S0
 refine rg ?_
 refine bx Y Y H0 fun g1 w1 K1 => ?_
 refine aR Y <| dn <| rg <| ev (Ev.field (q := ⟨g1, 0, none⟩) rM Y Y) <| ev (Ev.aj bf Y (K1.x s0) Y) <| ev (Ev.aj bf Y (YS.ext K1.ext) Y) <| ev (Ev.eql Y Y) <| mv Y ?_
 refine WL.dR 5 14 ((decide (x.aB = dJ)) && (decide (x.To = dM))) ?_ ?_
 ·
  cases hb9 : decide (x.aB = dJ) with
  | true =>
   have al5 := of_decide_eq_true hb9
   refine WL.bF Y (Ev.field (q := ⟨g1, 3, none⟩) jl Y Y) Y <| WL.bF Y (Ev.aj bf Y (K1.x s0) Y) Y <| WL.bF Y (Ev.aj bf Y (aeD.ext K1.ext) Y) Y ?_
   refine WL.bF Y (Ev.eql Y Y) Y <| ev (Ev.bq Y Y) ?_
   exact WL.bM Y
  | false =>
   refine WL.pass Y Y Y <| WL.pass Y Y Y <| WL.pass Y Y Y <| WL.pass Y Y Y <| ev (Ev.bn Y Y) ?_
   exact WL.bM Y
 refine aR Y <| dn ?_
 refine WP.ret (aA.aD Y Y Y ?_)
 have hq1 : (((decide (x.aB = dJ)) && (decide (x.To = dM))) : Bool) = (decide (x.aB = dJ) && decide (x.To = dM)) := by first | with_reducible rfl | (simp; done) | omega
 exact ⟨by rw [hq1] <;> rfl, (K1.rm s0)⟩
theorem R4 {S0 : Nat → Prop} (w : World) {d9 : an3} {eu : Nat} {l : List ALease} (dN : Sl tLease S0 w d9 eu l) (dJ : Int) (dM : Int) :
    bY Tryz.prog 77 #[.slice d9 l.length eu, .int .i64 dJ, .int .i64 dM] w fun v w' => v = .int .i64 (rJ l dJ dM) ∧ Hp w S0 w' [] := by
 refine WP.enter Tryz.func77 Y Tryz.ntmps77 Y ?_
 have H0 := Hp.init w S0
 have iJ := dN.aN
 refine rg ?_
 refine bx Y Y H0 fun g1 w1 K1 => ?_
 refine bx Y Y K1 fun g2 w2 K2 => ?_
 refine aR Y <| dn <| rg <| mv Y <| ev (Ev.func Y) ?_
 refine C0 K2 Y Y Y abZ (zD _ (K2.a dN).any (Az := [.pointer (some ⟨g1, 0, none⟩), .pointer (some ⟨g2, 0, none⟩)]) abY (fun (x : ALease) => decide (x.aB = dJ) && decide (x.To = dM)) (fun w' x e hm => (Oy (S0 := Any) w' x dJ ((K2.x s1).ext e) dM ((K2.x s0).ext e)).mono (by rintro _ _ ⟨rfl, hq2⟩; exact ⟨rfl, hq2.ext⟩))) fun w3 K3 => ?_
 refine aR Y <| dn ?_
 refine WP.ret (aA.aD Y Y Y ?_)
 have hq1 : (idxOf (fun (x : ALease) => decide (x.aB = dJ) && decide (x.To = dM)) l : Int) = (rJ l dJ dM) := by rfl
 exact ⟨by rw [hq1] <;> rfl, K3.z⟩
theorem sK {S0 : Nat → Prop} (w : World) {qE : an3} {qF : Nat} {s : List ALease} (j3 : Sl tLease S0 w qE qF s) (hn : s.length ≤ 1000000) :
    bY Tryz.prog 37 #[.slice qE s.length qF] w fun v w' => ∃ (A0 : an3) (c0 : Nat), v = .slice A0 s.length c0 ∧ Hp w S0 w' [aQ tLease 77 A0 c0 s] := by
 refine WP.enter Tryz.func37 Y Tryz.ntmps37 Y ?_
 have H0 := Hp.init w S0
 have yH := j3.aN
 refine rg <| aR Y <| dn <| WP.seq <| rg <| mv Y <| ev (Ev.Gn Tryz.underlying28 Y Y) <| dn ?_
 refine WP.aG Y (fun hc4 => ?_) (fun hc4 => ?_)
 ·
  refine rg <| aR Y <| dn ?_
  refine WP.ret (aA.aP (aA.aD Y Y Y ?_))
  have H1 := H0.nil tLease 77
  have hq1 : (([] : List ALease) : List ALease) = s := by have h1 := j3.nil (by simpa using hc4); have h2 := j3.cap; exact (List.eq_nil_of_length_eq_zero (by omega)).symm
  have H2 := (hq1 ▸ H1 : Hp w S0 w (aQ tLease 77 none 0 s :: []))
  exact ⟨none, 0, by rw [← hq1] <;> rfl, H2⟩
 refine WP.skip (aA.norm ?_)
 refine rg ?_
 refine bs0 (τ := tLease) (vs := []) Y (by intro _; apply Vl) rfl H0 fun g1 w1 K1 => ?_
 refine mv Y ?_
 refine ap (ys := s) K1 s0 Y Y (K1.a j3).any Tryz.underlying28 BQ (by simp) (by first | omega | (simp; omega) | (simp; done)) rfl fun jg jh w2 K2 => ?_
 refine aR Y <| dn ?_
 refine WP.ret (aA.aD Y Y Y ?_)
 have hq2 : ((([] : List ALease) ++ s) : List ALease) = s := by simp
 rw [hq2] at K2
 exact ⟨jg, jh, by rw [hq2] <;> rfl, K2⟩
theorem Oz {S0 : Nat → Prop} (w : World) {d9 : an3} {eu : Nat} {l : List ALease} (dN : Sl tLease S0 w d9 eu l) (x : ALease) (bg : Int) (all : Int) (hn : l.length ≤ 100) :
    bY Tryz.prog 137 #[.slice d9 l.length eu, .agg #[.int .i64 x.aB, .int .i64 x.ay, .int .i64 x.dw, .int .i64 x.To, .int .i64 x.dQ], .int .i64 bg, .int .i64 all] w fun v w' => ∃ (A0 : an3) (c0 : Nat), v = .tuple #[.slice A0 ((gB l x bg all).length) c0, .int .i64 (gH l x bg all)] ∧ Hp w S0 w' [aQ tLease 77 A0 c0 (gB l x bg all)] := by
 refine WP.enter Tryz.func137 Y Tryz.ntmps137 Y ?_
 have H0 := Hp.init w S0
 have iJ := dN.aN
 refine rg ?_
 refine bx Y Y H0 fun g1 w1 K1 => ?_
 refine aR Y <| aR Y <| dn <| rg <| mv Y <| ev (Ev.field (q := ⟨g1, 2, none⟩) qc Y Y) <| ev (Ev.aj bf Y (K1.x s0) Y) ?_
 refine C0 K1 Y Y Y ZO (Ee _ (K1.a dN).any x.dw (by omega)) fun w2 K2 => ?_
 refine mv Y <| xt Y Y <| xt Y Y <| aR Y <| aR Y <| dn <| rg <| mv Y <| ev (Ev.field (q := ⟨g1, 3, none⟩) jl Y Y) <| ev (Ev.aj bf Y (K2.x s0) Y) ?_
 refine C0 K2 Y Y Y ZO (Ee _ (K2.a dN).any x.To (by omega)) fun w3 K3 => ?_
 refine mv Y <| xt Y Y <| xt Y Y <| aR Y <| aR Y <| dn <| WP.seq <| WP.block <| rg <| ev (Ev.bX pK Y Y (K3.x s0)) ?_
 refine C0 K3 Y Y Y aeB (Vn (S0 := Any) _ x) fun w4 K4 => ?_
 refine ev (Ev.not Y) <| aR Y <| dn ?_
 refine WP.aG Y (fun hc28 => ?_) (fun hc28 => ?_)
 ·
  try simp only [an4, an5, an6, an7, an8, an9, aoa, aob] at hc28
  refine rg <| aR Y <| aR Y <| dn ?_
  refine WP.ret (aA.bW (aA.aP (aA.aD Y Y Y ?_)))
  have H1 := K4.nil tLease 77
  have hq1 : (([] : List ALease) : List ALease) = (gB l x bg all) := by simp [gB, gH, (show qZ x = false by simpa using hc28)]
  have H2 := (hq1 ▸ H1 : Hp w S0 w4 (aQ tLease 77 none 0 (gB l x bg all) :: [dG g1 77 [.int .i64 x.aB, .int .i64 x.ay, .int .i64 x.dw, .int .i64 x.To, .int .i64 x.dQ]]))
  have hq2 : (1 : Int) = (gH l x bg all) := by simp [gH, (show qZ x = false by simpa using hc28)]
  exact ⟨none, 0, by rw [← hq1, ← hq2] <;> rfl, (H2.rm s1)⟩
 try simp only [an4, an5, an6, an7, an8, an9, aoa, aob] at hc28
 refine rg <| mv Y <| ev (Ev.field (q := ⟨g1, 0, none⟩) rM Y Y) <| ev (Ev.aj bf Y (K4.x s0) Y) <| ev (Ev.field (q := ⟨g1, 3, none⟩) jl Y Y) <| ev (Ev.aj bf Y (K4.x s0) Y) ?_
 refine C0 K4 Y Y Y aeC (R4 _ (K4.a dN).any x.aB x.To) fun w5 K5 => ?_
 refine ev (Ev.geq Y Y) <| aR Y <| dn ?_
 refine WP.aG Y (fun hc32 => ?_) (fun hc32 => ?_)
 ·
  replace hc32 := of_decide_eq_true hc32
  refine rg <| aR Y <| aR Y <| dn ?_
  refine WP.ret (aA.bW (aA.aP (aA.aD Y Y Y ?_)))
  have H3 := K5.nil tLease 77
  have hq3 : (([] : List ALease) : List ALease) = (gB l x bg all) := by have hm : qZ x = true := (by simpa using hc28); simp [gB, gH, hm, hc32]
  have H4 := (hq3 ▸ H3 : Hp w S0 w5 (aQ tLease 77 none 0 (gB l x bg all) :: [dG g1 77 [.int .i64 x.aB, .int .i64 x.ay, .int .i64 x.dw, .int .i64 x.To, .int .i64 x.dQ]]))
  have hq4 : (6 : Int) = (gH l x bg all) := by have hm : qZ x = true := (by simpa using hc28); simp [gH, hm, hc32]
  exact ⟨none, 0, by rw [← hq3, ← hq4] <;> rfl, (H4.rm s1)⟩
 replace hc32 := of_decide_eq_false hc32
 refine rg <| mv Y <| ev (Ev.len Tryz.underlying28 Y) <| mv Y <| ev (Ev.geq Y Y) <| mv Y ?_
 refine WL.dR 4 49 ((decide (all ≤ ((l.length : Nat) : Int))) || (decide (bg ≤ ((sends l x.dw : Nat) : Int)))) ?_ ?_
 ·
  cases ab1 : decide (all ≤ ((l.length : Nat) : Int)) with
  | true =>
   refine WL.pass Y Y Y <| WL.pass Y Y Y <| WL.pass Y Y Y <| ev (Ev.bq Y Y) ?_
   exact WL.bM Y
  | false =>
   have aeE := of_decide_eq_false ab1
   refine WL.bF Y (Ev.move Y) Y <| WL.bF Y (Ev.move Y) Y <| WL.bF Y (Ev.geq Y Y) Y <| ev (Ev.bn Y Y) ?_
   exact WL.bM Y
 refine mv Y ?_
 refine WL.dR 4 54 (((decide (all ≤ ((l.length : Nat) : Int))) || (decide (bg ≤ ((sends l x.dw : Nat) : Int)))) || (decide (bg ≤ ((takes l x.To : Nat) : Int)))) ?_ ?_
 ·
  cases ab2 : ((decide (all ≤ ((l.length : Nat) : Int))) || (decide (bg ≤ ((sends l x.dw : Nat) : Int)))) with
  | true =>
   refine WL.pass Y Y Y <| WL.pass Y Y Y <| WL.pass Y Y Y <| ev (Ev.bq Y Y) ?_
   exact WL.bM Y
  | false =>
   have Vp := ab2
   try simp only [Bool.or_eq_true, Bool.or_eq_false_iff, decide_eq_true_eq, decide_eq_false_iff_not] at Vp
   refine WL.bF Y (Ev.move Y) Y <| WL.bF Y (Ev.move Y) Y <| WL.bF Y (Ev.geq Y Y) Y <| ev (Ev.bn Y Y) ?_
   exact WL.bM Y
 refine aR Y <| dn <| WP.keep' [(0, .slice d9 l.length eu), (5, .pointer (some ⟨g1, 0, none⟩)), (40, .bool (((decide (all ≤ ((l.length : Nat) : Int))) || (decide (bg ≤ ((sends l x.dw : Nat) : Int)))) || (decide (bg ≤ ((takes l x.To : Nat) : Int)))))] Y ?_
 refine WP.aG Y (fun OA => ?_) (fun OA => ?_)
 ·
  try simp only [Bool.or_eq_true, Bool.or_eq_false_iff, decide_eq_true_eq, decide_eq_false_iff_not] at OA
  refine rg <| aR Y <| aR Y <| dn ?_
  refine WP.ret (aA.bW (aA.aP (aA.aD Y Y Y ?_)))
  have H5 := K5.nil tLease 77
  have kP : (([] : List ALease) : List ALease) = (gB l x bg all) := by have hm : qZ x = true := (by simpa using hc28); have hf : ¬ 0 ≤ rJ l x.aB x.To := hc32; have hx : all ≤ l.length ∨ bg ≤ sends l x.dw ∨ bg ≤ takes l x.To := (by simpa [or_assoc] using OA); simp [gB, gH, hm, hf, hx]
  have H6 := (kP ▸ H5 : Hp w S0 w5 (aQ tLease 77 none 0 (gB l x bg all) :: [dG g1 77 [.int .i64 x.aB, .int .i64 x.ay, .int .i64 x.dw, .int .i64 x.To, .int .i64 x.dQ]]))
  have ny : (7 : Int) = (gH l x bg all) := by have hm : qZ x = true := (by simpa using hc28); have hf : ¬ 0 ≤ rJ l x.aB x.To := hc32; have hx : all ≤ l.length ∨ bg ≤ sends l x.dw ∨ bg ≤ takes l x.To := (by simpa [or_assoc] using OA); simp [gH, hm, hf, hx]
  exact ⟨none, 0, by rw [← kP, ← ny] <;> rfl, (H6.rm s1)⟩
 try simp only [Bool.or_eq_true, Bool.or_eq_false_iff, decide_eq_true_eq, decide_eq_false_iff_not] at OA
 refine WP.skip (aA.aS (aA.norm ?_))
 refine He K5 (fun _ K => K) (fun l0 rk lJ wJ => ∃ (jw : an3) (jy : Nat), lJ = (8, .slice jw ((l ++ ([x] : List ALease)).length) jy) :: (9, .int .i64 0) :: l0 ∧ Hp w S0 wJ (aQ tLease 77 jw jy (l ++ ([x] : List ALease)) :: rk)) (fun hns H7 => ?_) ?_
 ·
  refine Tm 0 1 hns Y Y H7 <| Tn 2 5 hns Y (fun _ hK => Ev.bX pK Y Y (hK.x s0)) H7 ?_
  refine Jn H7 (fun l0 rk lJ wJ => ∃ (g2 : Nat) (vO : an3) (vQ : Nat), lJ = (56, .slice vO l.length vQ) :: (58, .slice (some ⟨g2, 0, none⟩) (([x] : List ALease).length) 1) :: l0 ∧ Hp w S0 wJ (aQ tLease 77 (some ⟨g2, 0, none⟩) 1 ([x] : List ALease) :: aQ tLease 77 vO vQ l :: rk)) 3 15 ?_ fun hS1 => ?_
  ·
   rintro _ Om ⟨g2, vO, vQ, rfl, qb⟩
   refine O1 4 Y ?_
   refine ap (ys := ([x] : List ALease)) qb s1 Y Y (qb.o s0) Tryz.underlying28 BQ (by first | omega | (simp; omega) | (simp; done)) (by simp) rfl fun G5 cp2 Le oH => ?_
   have k5 := ((oH.rm s1).rm s0)
   refine WH.next k5 <| Ta 5 63 hns Y Y k5 <| Ta 6 127 hns Y Y k5 ?_
   exact Dn ⟨G5, cp2, Y, (oH.rm s1)⟩ Y
  refine O2 1 3 Y Y ?_ ?_
  ·
   refine WL.call Y Y Y Vm (sK _ (H7.a dN).any (by omega)) Y ?_
   rintro _ RY ⟨aeF, aeG, rfl, h13⟩
   have sP := H7.f1 h13
   have k6 := (sP.rm s0)
   refine WH.next k6 <| O1 3 Y ?_
   refine ni (τ := tLease) (x := x) Y (by intro _; apply jY) rfl sP (fun _ _ => rfl) fun g4 RZ nO => ?_
   have k7 := ((nO.rm s1).rm s0)
   exact Kj hS1 k7 ⟨g4, aeF, aeG, Y, nO⟩ Y
  ·
   refine ni (τ := tLease) (x := x) Y (by intro _; apply jY) rfl H7 (fun _ _ => rfl) fun g5 TM vW => ?_
   have k8 := (vW.rm s0)
   refine WH.next k8 <| O1 1 Y <| WL.call Y Y Y Vm (sK _ (vW.a dN).any (by omega)) Y ?_
   rintro _ w16 ⟨Ls, Lu, rfl, h16⟩
   have tQ := vW.f1 h16
   have k9 := ((tQ.rm s1).rm s0)
   exact Kj hS1 k9 ⟨g5, Ls, Lu, Y, ((tQ.sel s0).sel s1)⟩ Y
 rintro _ Vh ⟨jw, jy, rfl, qp⟩
 refine WP.ret (aA.aD Y Y Y ?_)
 have kT : ((l ++ ([x] : List ALease)) : List ALease) = (gB l x bg all) := by have hm : qZ x = true := (by simpa using hc28); have hf : ¬ 0 ≤ rJ l x.aB x.To := hc32; have hx : ¬ (all ≤ l.length ∨ bg ≤ sends l x.dw ∨ bg ≤ takes l x.To) := (by simpa [not_or, and_assoc] using OA); simp [gB, gH, hm, hf, hx]
 rw [kT] at qp
 have hq8 : (0 : Int) = (gH l x bg all) := by have hm : qZ x = true := (by simpa using hc28); have hf : ¬ 0 ≤ rJ l x.aB x.To := hc32; have hx : ¬ (all ≤ l.length ∨ bg ≤ sends l x.dw ∨ bg ≤ takes l x.To) := (by simpa [not_or, and_assoc] using OA); simp [gH, hm, hf, hx]
 exact ⟨jw, jy, by rw [kT, ← hq8] <;> rfl, (qp.rm s1)⟩
theorem Lx {S0 : Nat → Prop} (w : World) {d9 : an3} {eu : Nat} {l : List ALease} (dN : Sl tLease S0 w d9 eu l) (now : Int) (hn : l.length ≤ 1000000) :
    bY Tryz.prog 53 #[.slice d9 l.length eu, .int .i64 now] w fun v w' => ∃ (A0 : an3) (c0 : Nat) (A1 : an3) (c1 : Nat), v = .tuple #[.slice A0 ((l.filter (sQ now)).length) c0, .slice A1 ((l.filter (nH now)).length) c1] ∧ Hp w S0 w' [aQ tLease 77 A0 c0 (l.filter (sQ now)), aQ tLease 77 A1 c1 (l.filter (nH now))] := by
 refine WP.enter Tryz.func53 Y Tryz.ntmps53 Y ?_
 have H0 := Hp.init w S0
 have iJ := dN.aN
 refine rg <| aR Y <| aR Y <| dn <| WP.seq <| rg <| mv Y <| ev (Ev.len Tryz.underlying28 Y) <| mv Y <| dn <| WP.block ?_
 have H1 := H0.nil tLease 77
 have H2 := H1.nil tLease 77
 have hq1 : (([] : List ALease) : List ALease) = ((l.take 0).filter (sQ now)) := by simp
 refine WP.re (t := 4) Y (congrArg (fun z => Value.slice none (List.length z) 0) hq1) ?_
 have hq2 : (([] : List ALease) : List ALease) = ((l.take 0).filter (nH now)) := by simp
 refine WP.re (t := 5) Y (congrArg (fun z => Value.slice none (List.length z) 0) hq2) ?_
 have H3 := H2.nil tLease 77
 have H4 := (hq1 ▸ H3 : Hp w S0 w (aQ tLease 77 none 0 ((l.take 0).filter (sQ now)) :: [aQ tLease 77 none 0 [], aQ tLease 77 none 0 []]))
 have H5 := H4.nil tLease 77
 have H6 := (hq2 ▸ H5 : Hp w S0 w (aQ tLease 77 none 0 ((l.take 0).filter (nH now)) :: [aQ tLease 77 none 0 ((l.take 0).filter (sQ now)), aQ tLease 77 none 0 [], aQ tLease 77 none 0 []]))
 refine Lp ((((H6.rm s3).rm s2).rm s1).rm s0) (fun l0 rk mJ lJ wJ => ∃ (k : Nat) (A4 : an3) (c4 : Nat) (A5 : an3) (c5 : Nat), lJ = (4, .slice A4 (((l.take k).filter (sQ now)).length) c4) :: (5, .slice A5 (((l.take k).filter (nH now)).length) c5) :: (10, .int .i64 ((k : Nat) : Int)) :: l0 ∧ mJ = l.length - k ∧ k ≤ l.length ∧ Hp w S0 wJ (aQ tLease 77 A4 c4 ((l.take k).filter (sQ now)) :: aQ tLease 77 A5 c5 ((l.take k).filter (nH now)) :: rk)) ⟨0, none, 0, none, 0, Y, Y, Nat.zero_le _, ((((H6.rm s3).rm s2).sel s0).sel s1)⟩ Y ?_
 rintro _ _ w1 ⟨k, A4, c4, A5, c5, rfl, rfl, hk, K1⟩
 refine rg <| ev (Ev.lss Y Y) <| dn ?_
 refine WP.cond Y (fun fK => ?_) (fun fK => ?_)
 ·
  replace fK := of_decide_eq_true fK
  refine WP.skip (aA.norm ?_)
  refine WP.seq <| WP.block <| rg ?_
  obtain ⟨x1, hx1⟩ := get_some (xs := l) (i := k) (by omega)
  refine ev (Ev.index (i := k) Tryz.underlying28 lu Y Y Y (aC hx1) ((K1.a dN).some_ hx1)) <| ev (Ev.loadRow pK Y Y ((K1.a dN).dx hx1)) ?_
  refine al zB Y K1 fun g1 w2 K2 => ?_
  refine iW Y Y Y lu K2 s0 Y Y fun w3 K3 => ?_
  refine dn <| WP.seq <| rg <| ev (Ev.field (q := ⟨g1, 4, none⟩) uK Y Y) <| ev (Ev.aj bf Y (K3.x s0) Y) <| mv Y <| ev (Ev.lss Y Y) <| dn ?_
  refine WP.aG Y (fun hc17 => ?_) (fun hc17 => ?_)
  ·
   replace hc17 := of_decide_eq_true hc17
   refine rg <| mv Y <| ev (Ev.bX pK Y Y (K3.x s0)) ?_
   refine ni (τ := tLease) (x := x1) Y (by intro _; apply jY) rfl K3 (fun _ _ => rfl) fun g2 w4 K4 => ?_
   refine ap (ys := ([x1] : List ALease)) K4 s3 Y Y (K4.o s0) Tryz.underlying28 BQ (by have := nX (nH now) l k; omega) (by simp) rfl fun jg jh w5 K5 => ?_
   refine aR Y <| dn ?_
   refine WP.exit (aA.aF (aA.bS (aA.norm ?_)))
   refine eP <| ev (Ev.add Y Y (eX.mk (by omega) (by omega))) <| mv Y <| eT ?_
   have hq3 : (((l.take k).filter (sQ now)) : List ALease) = ((l.take (k + 1)).filter (sQ now)) := by rw [iE hx1]; simp [sQ, hc17]
   refine aA.re (t := 4) Y (congrArg (fun z => Value.slice A4 (List.length z) c4) hq3) ?_
   have hq4 : ((((l.take k).filter (nH now)) ++ ([x1] : List ALease)) : List ALease) = ((l.take (k + 1)).filter (nH now)) := by rw [iE hx1]; simp [nH, hc17]
   refine aA.re (t := 5) Y (congrArg (fun z => Value.slice jg (List.length z) jh) hq4) ?_
   rw [hq3] at K5
   rw [hq4] at K5
   exact aA.ag ⟨(k + 1), A4, c4, jg, jh, Y, Y, by omega, ((((K5.rm s2).rm s1).sel s0).sel s1)⟩ rfl (by omega)
  replace hc17 := of_decide_eq_false hc17
  refine WP.skip (aA.norm ?_)
  refine eP <| mv Y <| ev (Ev.bX pK Y Y (K3.x s0)) ?_
  refine ni (τ := tLease) (x := x1) Y (by intro _; apply jY) rfl K3 (fun _ _ => rfl) fun g3 w6 K6 => ?_
  refine ap (ys := ([x1] : List ALease)) K6 s2 Y Y (K6.o s0) Tryz.underlying28 BQ (by have := nX (sQ now) l k; omega) (by simp) rfl fun G5 cp2 w7 K7 => ?_
  refine aR Y <| eT ?_
  refine aA.aS (aA.norm ?_)
  refine eP <| ev (Ev.add Y Y (eX.mk (by omega) (by omega))) <| mv Y <| eT ?_
  have kP : ((((l.take k).filter (sQ now)) ++ ([x1] : List ALease)) : List ALease) = ((l.take (k + 1)).filter (sQ now)) := by rw [iE hx1]; simp [sQ, hc17]
  refine aA.re (t := 4) Y (congrArg (fun z => Value.slice G5 (List.length z) cp2) kP) ?_
  have ny : (((l.take k).filter (nH now)) : List ALease) = ((l.take (k + 1)).filter (nH now)) := by rw [iE hx1]; simp [nH, hc17]
  refine aA.re (t := 5) Y (congrArg (fun z => Value.slice A5 (List.length z) c5) ny) ?_
  rw [kP] at K7
  rw [ny] at K7
  exact aA.ag ⟨(k + 1), G5, cp2, A5, c5, Y, Y, by omega, ((K7.rm s2).rm s1)⟩ rfl (by omega)
 replace fK := of_decide_eq_false fK
 refine WP.exit (aA.aF (aA.aF (aA.bS (aA.norm ?_))))
 refine rg <| mv Y <| mv Y <| aR Y <| aR Y <| dn ?_
 refine WP.ret (aA.aD Y Y Y ?_)
 have kT : (((l.take k).filter (sQ now)) : List ALease) = (l.filter (sQ now)) := by rw [List.take_of_length_le (by omega)]
 rw [kT] at K1
 have hq8 : (((l.take k).filter (nH now)) : List ALease) = (l.filter (nH now)) := by rw [List.take_of_length_le (by omega)]
 rw [hq8] at K1
 exact ⟨A4, c4, A5, c5, by rw [kT, hq8] <;> rfl, K1⟩
theorem R5 {S0 : Nat → Prop} (w : World) {d9 : an3} {eu : Nat} {l : List ALease} (dN : Sl tLease S0 w d9 eu l) {eY : an3} {eZ : Nat} {ak : List Int} (dU : Sl tInt S0 w eY eZ ak) (bg : Int) (hn : l.length ≤ 65) (h0 : 0 ≤ bg) (h1 : bg ≤ 64) :
    bY Tryz.prog 86 #[.slice d9 l.length eu, .slice eY ak.length eZ, .int .i64 bg] w fun v w' => v = .tuple #[.int .i64 (lV l ak bg), .bool (lq l ak bg)] ∧ Hp w S0 w' [] := by
 refine WP.enter Tryz.func86 Y Tryz.ntmps86 Y ?_
 have H0 := Hp.init w S0
 have iJ := dN.aN
 have mU := dU.aN
 refine rg <| aR Y <| aR Y <| dn ?_
 refine WP.jumps (lb := 0) (fun mJ lJ wJ => ∃ (k : Nat), lJ = [(0, .slice d9 l.length eu), (1, .slice eY ak.length eZ), (2, .int .i64 bg), (8, .int .i64 ((k : Nat) : Int))] ∧ mJ = ak.length - k ∧ (k ≤ ak.length) ∧ (∀ y ∈ ak.take k, oM l bg y = false) ∧ Hp w S0 wJ []) Y ?_ ?_
 ·
  rintro _ _ w1 ⟨k, rfl, rfl, hkl, hno, K1⟩
  refine WP.seq <| rg <| mv Y <| mv Y <| ev (Ev.len Tryz.underlying51 Y) <| ev (Ev.eql Y Y) <| dn ?_
  refine WP.aG Y (fun iL => ?_) (fun iL => ?_)
  ·
   replace iL := of_decide_eq_true iL
   refine rg <| aR Y <| aR Y <| dn ?_
   refine WP.ret (aA.aP (aA.Kv (aA.aD Y Y Y ?_)))
   have hq1 : (0 : Int) = (lV l ak bg) := by have hf := qK (jf hno (by omega)); simp [lV, hf]
   have hq2 : (false : Bool) = (lq l ak bg) := by have hf := qK (jf hno (by omega)); simp [lq, hf]
   exact ⟨by rw [← hq1, ← hq2] <;> rfl, K1⟩
  replace iL := of_decide_eq_false iL
  refine WP.skip (aA.norm ?_)
  refine WP.seq <| rg <| mv Y <| mv Y <| mv Y ?_
  obtain ⟨x1, hx1⟩ := get_some (xs := ak) (i := k) (by omega)
  refine ev (Ev.index (i := k) Tryz.underlying51 iC Y Y Y (aC hx1) ((K1.a dU).some_ hx1)) <| ev (Ev.aZ bf Y ((K1.a dU).aX (j := 0) hx1 Y)) ?_
  refine C0 K1 Y Y Y Vk (zC _ (K1.a dN).any x1 (by omega)) fun w2 K2 => ?_
  refine ev (Ev.real Y) <| mv Y <| ev (Ev.ahT (m := bg.toNat) ⟨_, Tryz.underlying3⟩ Tryz.underlying156 Y (by omega)) <| ev (Ev.ahU (by have := qJ l x1; omega) (by have := qJ l x1; omega) rfl rfl) ?_
  refine dn ?_
  refine WP.aG Y (fun hc22 => ?_) (fun hc22 => ?_)
  ·
   replace hc22 := of_decide_eq_true hc22
   refine rg <| mv Y <| ev (Ev.add Y Y (eX.mk (by omega) (by omega))) <| aR Y <| dn <| WP.goto (aA.Ri ?_)
   have hq3 : (((k + 1 : Nat) : Int) : Int) = (((k + 1) : Nat) : Int) := by simp
   refine aA.re (t := 8) Y (congrArg (Value.int .i64) hq3) ?_
   exact aA.jag ⟨(k + 1), Y, Y, by omega, by exact gP hno hx1 (by simp only [oM, decide_eq_false_iff_not]; omega), K2⟩ rfl (by omega)
  replace hc22 := of_decide_eq_false hc22
  refine WP.skip (aA.norm ?_)
  refine rg <| mv Y <| mv Y <| ev (Ev.index (i := k) Tryz.underlying51 iC Y Y Y (aC hx1) ((K2.a dU).some_ hx1)) <| ev (Ev.aZ bf Y ((K2.a dU).aX (j := 0) hx1 Y)) <| aR Y <| aR Y <| dn ?_
  refine WP.ret (aA.Kv (aA.aD Y Y Y ?_))
  have hq4 : (x1 : Int) = (lV l ak bg) := by have hf := oN (p := oM l bg) hno hx1 (by simp only [oM, decide_eq_true_eq]; omega); simp [lV, hf]
  have kP : (true : Bool) = (lq l ak bg) := by have hf := oN (p := oM l bg) hno hx1 (by simp only [oM, decide_eq_true_eq]; omega); simp [lq, hf]
  exact ⟨by rw [← hq4, ← kP] <;> rfl, K2⟩
 ·
  intro hp0
  refine rg <| aR Y <| dn ?_
  exact WP.kp hp0 ⟨0, Y, Y, by omega, by simp, H0⟩ rfl
end Go.Proofs.YtjcklpooaaaglaaGreat
