/- Texts that the statement needs, with short names. -/
import Derived.Test.YtjcklpooaaaglaaGreatvG6
set_option maxRecDepth 4000
set_option linter.all false
namespace Go.Proofs.YtjcklpooaaaglaaGreat
open Go.RowKit
structure bK where
  aB : Int
  Have : Int
  Live : Int
  deriving DecidableEq
def bK.enc (x : bK) : List Value := [.int .i64 x.aB, .int .i64 x.Have, .int .i64 x.Live]
theorem bK.iB (x : bK) : ∀ u ∈ x.enc, u.oneCell' = true := by
  intro u hu
  simp only [bK.enc, List.mem_cons, List.not_mem_nil, or_false] at hu
  rcases hu with rfl | rfl | rfl <;> rfl
def fP : Ty bK := Ty.flat 3 bK.enc (by decide) (fun _ => rfl) bK.iB
instance : Flat fP := ⟨fun h => h⟩
def kg (a b : bK) : Bool := decide (zx [dP a.Live b.Live, dP a.Have b.Have, dP a.aB b.aB] < 0)
def Jg : Nat → List bK → Nat → List bK
  | 0, l, _ => l
  | f + 1, l, i => match l[i]?, l[(i - 1) / 2]? with
    | some x, some y => if (decide (0 < i) && kg x y) = true then Jg f ((l.set i y).set ((i - 1) / 2) x) ((i - 1) / 2) else l
    | _, _ => l
def upL (l : List bK) : List bK := Jg l.length l (l.length - 1)
theorem Qv : ∀ (f : Nat) (l : List bK) (i : Nat), (Jg f l i).length = l.length
  | 0, _, _ => rfl
  | f + 1, l, i => by
    unfold Jg
    split
    · split
      · rw [Qv f, List.length_set, List.length_set]
      · rfl
    · rfl
theorem LJ : ∀ (f f' : Nat) (l : List bK) (i : Nat), i < f → i < f' → Jg f l i = Jg f' l i
  | 0, _, _, _, h, _ => absurd h (Nat.not_lt_zero _)
  | _ + 1, 0, _, _, _, h => absurd h (Nat.not_lt_zero _)
  | f + 1, f' + 1, l, i, h1, h2 => by
    unfold Jg
    split
    · split
      · rename_i hc
        simp only [Bool.and_eq_true, decide_eq_true_eq] at hc
        exact LJ f f' _ _ (by omega) (by omega)
      · rfl
    · rfl
theorem acv {l : List bK} {i : Nat} {x y : bK} (hx : l[i]? = some x) (hy : l[(i - 1) / 2]? = some y) (hi : 0 < i) (h : kg x y = true) : Jg (i + 1) l i = Jg ((i - 1) / 2 + 1) ((l.set i y).set ((i - 1) / 2) x) ((i - 1) / 2) := by
  conv => lhs; unfold Jg
  rw [hx, hy]
  show (if (decide (0 < i) && kg x y) = true then _ else _) = _
  rw [if_pos (by simp [hi, h])]
  exact LJ _ _ _ _ (by omega) (by omega)
theorem VL {l : List bK} {i : Nat} (h : ∀ x y, l[i]? = some x → l[(i - 1) / 2]? = some y → (decide (0 < i) && kg x y) = false) : Jg (i + 1) l i = l := by
  unfold Jg
  split
  · rename_i x y hx hy
    rw [if_neg (by rw [h x y hx hy]; decide)]
  · rfl
theorem rO : dL Tryz.prog 90 2 2 := fun _ _ => by kernel_rfl
theorem oW : dL Tryz.prog 90 1 1 := fun _ _ => by kernel_rfl
theorem rP : dL Tryz.prog 90 0 0 := fun _ _ => by kernel_rfl
theorem BR (a0 : Int) (a1 : Int) (a2 : Int) : ∀ w, (Instr.buildSlice 51 3 (List.toArray [(0, .int .i64 a0), (1, .int .i64 a1), (2, .int .i64 a2)])).run Tryz.prog w = .ok (.slice (some ⟨w.heap.size, 0, none⟩) 3 3) (w.alloc (.cells (List.toArray [.int .i64 a0, .int .i64 a1, .int .i64 a2]) 3)) := fun _ => by kernel_rfl
theorem iK : Size Tryz.prog 90 3 := fun _ => by kernel_rfl
theorem jW : NT Tryz.prog 90 3 := ⟨fun _ => by kernel_rfl, iK⟩
theorem acw : aM Tryz.prog 167 := fun _ _ => by kernel_rfl
theorem gX : dL Tryz.prog 160 0 0 := fun _ _ => by kernel_rfl
theorem mW : kH Tryz.prog 82 := fun _ => by kernel_rfl
theorem LK : dL Tryz.prog 160 1 1 := fun _ _ => by kernel_rfl
theorem VN : kH Tryz.prog 158 := fun _ => by kernel_rfl
theorem VO : aM Tryz.prog 126 := fun _ _ => by kernel_rfl
theorem Sz {S0 : Nat → Prop} (w : World) (a : bK) (b : bK) :
    bY Tryz.prog 167 #[.agg #[.int .i64 a.aB, .int .i64 a.Have, .int .i64 a.Live], .agg #[.int .i64 b.aB, .int .i64 b.Have, .int .i64 b.Live]] w fun v w' => v = .int .i64 (zx [dP a.Live b.Live, dP a.Have b.Have, dP a.aB b.aB]) ∧ Hp w S0 w' [] := by
 refine WP.enter Tryz.func167 Y Tryz.ntmps167 Y ?_
 have H0 := Hp.init w S0
 refine rg ?_
 refine bx Y Y H0 fun g1 w1 K1 => ?_
 refine bx Y Y K1 fun g2 w2 K2 => ?_
 refine aR Y <| dn ?_
 refine He K2 (fun _ K => K) (fun l0 rk lJ wJ => lJ = (4, .int .i64 (zx ([dP a.Live b.Live, dP a.Have b.Have, dP a.aB b.aB] : List Int))) :: l0 ∧ Hp w S0 wJ rk) (fun hns H1 => ?_) ?_
 ·
  refine Tn 0 1 hns Y (fun _ _ => Ev.field (q := ⟨g1, 2, none⟩) rO Y Y) H1 <| Tn 1 3 hns Y (fun _ hK => Ev.aj bf Y (hK.x s1) Y) H1 <| Tn 2 7 hns Y (fun _ _ => Ev.field (q := ⟨g2, 2, none⟩) rO Y Y) H1 ?_
  refine Tn 3 15 hns Y (fun _ hK => Ev.aj bf Y (hK.x s0) Y) H1 <| Tn 5 47 hns Y (fun _ _ => Ev.field (q := ⟨g1, 1, none⟩) oW Y Y) H1 ?_
  refine Tn 6 111 hns Y (fun _ hK => Ev.aj bf Y (hK.x s1) Y) H1 <| Tn 7 239 hns Y (fun _ _ => Ev.field (q := ⟨g2, 1, none⟩) oW Y Y) H1 ?_
  refine Tn 8 495 hns Y (fun _ hK => Ev.aj bf Y (hK.x s0) Y) H1 <| Tn 10 1519 hns Y (fun _ _ => Ev.field (q := ⟨g1, 0, none⟩) rP Y Y) H1 ?_
  refine Tn 11 3567 hns Y (fun _ hK => Ev.aj bf Y (hK.x s1) Y) H1 <| Tn 12 7663 hns Y (fun _ _ => Ev.field (q := ⟨g2, 0, none⟩) rP Y Y) H1 ?_
  refine Tn 13 15855 hns Y (fun _ hK => Ev.aj bf Y (hK.x s0) Y) H1 <| O1 4 Y ?_
  refine C0 H1 Y Y Y qD (jJ (S0 := Any) _ a.Live b.Live) fun w3 K3 => ?_
  refine WH.next K3 <| O1 9 Y ?_
  refine C0 K3 Y Y Y qD (jJ (S0 := Any) _ a.Have b.Have) fun w4 K4 => ?_
  refine WH.next K4 <| O1 14 Y ?_
  refine C0 K4 Y Y Y qD (jJ (S0 := Any) _ a.aB b.aB) fun w5 K5 => ?_
  refine WH.next K5 <| O1 15 Y ?_
  refine X7 (τ := tInt) (xs := ([dP a.Live b.Live, dP a.Have b.Have, dP a.aB b.aB] : List Int)) (vs := [(0, .int .i64 (dP a.Live b.Live)), (1, .int .i64 (dP a.Have b.Have)), (2, .int .i64 (dP a.aB b.aB))]) (css := [[.int .i64 (dP a.Live b.Live)], [.int .i64 (dP a.Have b.Have)], [.int .i64 (dP a.aB b.aB)]]) Y (by intro _; apply BR) rfl rfl K5 (fun _ e => ⟨rfl, rfl, rfl, trivial⟩) fun g3 w6 K6 => ?_
  have k1 := (K6.rm s0)
  refine WH.next k1 <| O1 16 Y ?_
  refine C0 K6 Y Y Y I7 (Qe _ (K6.o s0)) fun w7 K7 => ?_
  have k2 := (K7.rm s0)
  refine WH.next k2 <| Ta 17 262143 hns Y Y k2 ?_
  exact Dn ⟨Y, (K7.rm s0)⟩ Y
 rintro _ w8 ⟨rfl, K8⟩
 refine WP.ret (aA.aD Y Y Y ?_)
 have hq1 : (zx ([dP a.Live b.Live, dP a.Have b.Have, dP a.aB b.aB] : List Int) : Int) = (zx [dP a.Live b.Live, dP a.Have b.Have, dP a.aB b.aB]) := by rfl
 exact ⟨by rw [hq1] <;> rfl, K8.z⟩
theorem Ew {S0 : Nat → Prop} (w : World) (a : bK) (b : bK) :
    bY Tryz.prog 126 #[.agg #[.int .i64 a.aB, .int .i64 a.Have, .int .i64 a.Live], .agg #[.int .i64 b.aB, .int .i64 b.Have, .int .i64 b.Live]] w fun v w' => v = .bool (kg a b) ∧ Hp w S0 w' [] := by
 refine WP.enter Tryz.func126 Y Tryz.ntmps126 Y ?_
 have H0 := Hp.init w S0
 refine rg ?_
 refine bx Y Y H0 fun g1 w1 K1 => ?_
 refine bx Y Y K1 fun g2 w2 K2 => ?_
 refine aR Y <| dn <| rg <| ev (Ev.bX jW Y Y (K2.x s1)) <| ev (Ev.bX jW Y Y (K2.x s0)) ?_
 refine C0 K2 Y Y Y acw (Sz (S0 := Any) _ a b) fun w3 K3 => ?_
 refine ev (Ev.lss Y Y) <| aR Y <| dn ?_
 refine WP.ret (aA.aD Y Y Y ?_)
 have hq1 : (decide (zx [dP a.Live b.Live, dP a.Have b.Have, dP a.aB b.aB] < 0) : Bool) = (kg a b) := by rfl
 exact ⟨by rw [hq1] <;> rfl, K3.z⟩
theorem acy {b w : World} {S : Nat → Prop} {F : List jP} {g : Nat} {A : an3} {c : Nat} {l : List bK} (H0 : Hp b S w (dG g 162 [.slice A l.length c, .func (.func 126) #[] #[]] :: aQ fP 90 A c l :: F)) (hn : l.length ≤ 1000000) (h1 : 1 ≤ l.length) :
    bY Tryz.prog 127 #[.pointer (some ⟨g, 0, none⟩)] w fun v w' => v = .tuple #[] ∧ Hp b S w' (dG g 162 [.slice A (upL l).length c, .func (.func 126) #[] #[]] :: aQ fP 90 A c (upL l) :: F) := by
 refine WP.enter Tryz.func127 Y Tryz.ntmps127 Y ?_
 refine WP.jumps (lb := 0) (fun mJ lJ wJ => ∃ (i : Nat) (ys : List bK), lJ = [(0, .pointer (some ⟨g, 0, none⟩)), (2, .int .i64 ((i : Nat) : Int))] ∧ mJ = i + 1 ∧ (ys.length = l.length) ∧ (i < l.length) ∧ (Jg (i + 1) ys i = Jg l.length l (l.length - 1)) ∧ Hp b S wJ (aQ fP 90 A c ys :: dG g 162 [.slice A ys.length c, .func (.func 126) #[] #[]] :: F)) Y ?_ ?_
 ·
  rintro _ _ w1 ⟨i, ys, rfl, rfl, hyl, hil, hup, K1⟩
  have akH := half i
  refine rg <| mv Y <| ev (Ev.sub Y Y (eX.mk (by omega) (by omega))) <| ev (Ev.quo Y Y (by decide) (eX.mk (by omega) (by omega))) <| aR Y <| dn <| WP.re (t := 3) (u := .int .i64 ((((i : Nat) : Int) - 1).tdiv 2)) Y (congrArg (Value.int .i64) (half i)) ?_
  obtain ⟨x1, hx1⟩ := get_some (xs := ys) (i := i) (by omega)
  obtain ⟨x2, hx2⟩ := get_some (xs := ys) (i := (i - 1) / 2) (by omega)
  refine WP.draw (by kernel_rfl) (by kernel_rfl) <| WQ.ev (Ev.move Y) Y <| WQ.ev (Ev.gtr Y Y) Y <| WQ.ev (Ev.move Y) Y ?_
  refine WQ.dR 20 35 ((decide (0 < ((i : Nat) : Int))) && (kg x1 x2)) ?_ ?_
  ·
   cases IV : decide (0 < ((i : Nat) : Int)) with
   | true =>
    have UE := of_decide_eq_true IV
    refine WQ.bF Y (Ev.move Y) Y <| WQ.bF Y (Ev.nilCheck Y) Y <| WQ.bF Y (Ev.field (q := ⟨g, 1, none⟩) LK Y Y) Y <| WQ.bF Y (Ev.aj VN Y (K1.x s1) Y) Y ?_
    refine WQ.bF Y (Ev.move Y) Y <| WQ.bF Y (Ev.nilCheck Y) Y <| WQ.bF Y (Ev.field (q := ⟨g, 0, none⟩) gX Y Y) Y <| WQ.bF Y (Ev.aj mW Y (K1.x s1) Y) Y ?_
    refine WQ.bF Y (Ev.move Y) Y <| WQ.bF Y (Ev.index (i := i) Tryz.underlying82 iK Y Y Y (aC hx1) ((K1.o s0).some_ hx1)) Y <| WQ.bF Y (Ev.loadRow jW Y Y ((K1.o s0).dx hx1)) Y ?_
    refine WQ.bF Y (Ev.move Y) Y <| WQ.bF Y (Ev.nilCheck Y) Y <| WQ.bF Y (Ev.field (q := ⟨g, 0, none⟩) gX Y Y) Y <| WQ.bF Y (Ev.aj mW Y (K1.x s1) Y) Y ?_
    refine WQ.bF Y (Ev.move Y) Y <| WQ.bF Y (Ev.index (i := (i - 1) / 2) Tryz.underlying82 iK Y Y Y (aC hx2) ((K1.o s0).some_ hx2)) Y <| WQ.bF Y (Ev.loadRow jW Y Y ((K1.o s0).dx hx2)) Y ?_
    refine WQ.jd Y (v := .bool (kg x1 x2)) Y Y Y VO (fun wq eq => (Ew (S0 := Any) wq x1 x2).mono (by rintro _ _ ⟨rfl, hq2⟩; exact ⟨rfl, hq2.ext⟩)) rfl ?_
    refine WQ.ev (Ev.bq Y Y) Y ?_
    exact WQ.bM Y
   | false =>
    refine WQ.pass Y Y Y <| WQ.pass Y Y Y <| WQ.pass Y Y Y <| WQ.pass Y Y Y <| WQ.pass Y Y Y <| WQ.pass Y Y Y <| WQ.pass Y Y Y <| WQ.pass Y Y Y <| WQ.pass Y Y Y <| WQ.pass Y Y Y <| WQ.pass Y Y Y <| WQ.pass Y Y Y <| WQ.pass Y Y Y <| WQ.pass Y Y Y ?_
    refine WQ.pass Y Y Y <| WQ.pass Y Y Y <| WQ.pass Y Y Y <| WQ.pass Y Y Y <| WQ.pass Y Y Y <| WQ.ev (Ev.bn Y Y) Y ?_
    exact WQ.bM Y
  refine WQ.done fun w2 e2 => ?_
  have K2 := K1.grow e2
  refine WP.aG Y (fun kX => ?_) (fun kX => ?_)
  ·
   have hsA := (K2.o s0).some_ hx1
   have hp := (Bool.and_eq_true _ _).mp kX
   have hp1 := of_decide_eq_true hp.1
   have hgo := acv hx1 hx2 (by omega) hp.2
   refine He K2 (fun _ K => (K.rm s0)) (fun l0 rk lJ wJ => lJ = l0 ∧ Hp b S wJ (aQ fP 90 A c ((ys.set i x2).set ((i - 1) / 2) x1) :: rk)) (fun hns H1 => ?_) ?_
   ·
    have k1 := (H1.rm s0)
    refine Tm 0 1 hns Y Y k1 <| Tn 1 3 hns Y (fun _ _ => Ev.nilCheck Y) k1 <| Tn 2 7 hns Y (fun _ _ => Ev.field (q := ⟨g, 0, none⟩) gX Y Y) k1 ?_
    refine Tn 3 15 hns Y (fun _ hK => Ev.aj mW Y (hK.x s0) Y) k1 <| Tm 4 31 hns Y Y k1 <| Tm 5 63 hns Y Y k1 <| Tn 6 127 hns Y (fun _ _ => Ev.nilCheck Y) k1 ?_
    refine Tn 7 255 hns Y (fun _ _ => Ev.field (q := ⟨g, 0, none⟩) gX Y Y) k1 <| Tn 8 511 hns Y (fun _ hK => Ev.aj mW Y (hK.x s0) Y) k1 ?_
    refine Tm 9 1023 hns Y Y k1 <| Tm 10 2047 hns Y Y k1 <| Tn 11 4095 hns Y (fun _ _ => Ev.nilCheck Y) k1 <| Tn 12 8191 hns Y (fun _ _ => Ev.field (q := ⟨g, 0, none⟩) gX Y Y) k1 ?_
    refine Tn 13 16383 hns Y (fun _ hK => Ev.aj mW Y (hK.x s0) Y) k1 <| Tm 14 32767 hns Y Y k1 <| Tn 15 65535 hns Y (fun _ _ => Ev.index (i := (i - 1) / 2) Tryz.underlying82 iK Y Y Y (aC hx2) hsA) k1 ?_
    refine Tm 17 196607 hns Y Y k1 <| Tn 18 458751 hns Y (fun _ _ => Ev.nilCheck Y) k1 <| Tn 19 983039 hns Y (fun _ _ => Ev.field (q := ⟨g, 0, none⟩) gX Y Y) k1 ?_
    refine Tn 20 2031615 hns Y (fun _ hK => Ev.aj mW Y (hK.x s0) Y) k1 <| Tm 21 4128767 hns Y Y k1 <| Tn 22 8323071 hns Y (fun _ _ => Ev.index (i := i) Tryz.underlying82 iK Y Y Y (aC hx1) hsA) k1 ?_
    refine Jn H1 (fun l0 rk lJ wJ => lJ = (52, .agg #[.int .i64 x2.aB, .int .i64 x2.Have, .int .i64 x2.Live]) :: (59, .agg #[.int .i64 x1.aB, .int .i64 x1.Have, .int .i64 x1.Live]) :: l0 ∧ Hp b S wJ rk) 4 16777215 ?_ fun hS1 => ?_
    ·
     rintro _ w5 ⟨rfl, K5⟩
     have k4 := (K5.rm s0)
     refine Tn 24 33554431 hns Y (fun _ _ => Ev.index (i := i) Tryz.underlying82 iK Y Y Y (aC hx1) hsA) k4 <| O1 25 Y ?_
     refine se (i := i) (f := 0) (x := x1) (x' := x2) (ds := [.int .i64 x2.aB, .int .i64 x2.Have, .int .i64 x2.Live]) K5 s0 Y Y Y hx1 Y iK (Nat.le_of_ble_eq_true Y) Y (fun _ _ _ h => by have h' : _ = _ := h; subst h'; rfl) fun w6 K6 => ?_
     have hl3 : (ys.set i x2).length = ys.length := List.length_set ..
     refine WL.re (t := 39) (u := .slice A ys.length c) (v := .slice A ((ys.set i x2).length) c) Y (by rw [hl3]) <| WL.re (t := 44) (u := .slice A ys.length c) (v := .slice A ((ys.set i x2).length) c) rfl (by rw [hl3]) ?_
     have hx6 : (ys.set i x2)[i]? = some x2 := List.getElem?_set_self (aC hx1)
     have k5 := (K6.rm s0)
     refine WH.next k5 ?_
     obtain ⟨x4, hx7⟩ := get_some (xs := (ys.set i x2)) (i := (i - 1) / 2) (by omega)
     refine Tn 26 134217727 hns Y (fun _ _ => Ev.index (i := (i - 1) / 2) Tryz.underlying82 iK Y Y Y (aC hx7) hsA) k5 <| O1 27 Y ?_
     refine se (i := (i - 1) / 2) (f := 0) (x := x4) (x' := x1) (ds := [.int .i64 x1.aB, .int .i64 x1.Have, .int .i64 x1.Live]) K6 s0 Y Y Y hx7 Y iK (Nat.le_of_ble_eq_true Y) Y (fun _ _ _ h => by have h' : _ = _ := h; subst h'; rfl) fun w7 K7 => ?_
     have hl4 : ((ys.set i x2).set ((i - 1) / 2) x1).length = (ys.set i x2).length := List.length_set ..
     refine WL.re (t := 39) (u := .slice A ((ys.set i x2).length) c) (v := .slice A (((ys.set i x2).set ((i - 1) / 2) x1).length) c) Y (by rw [hl4]) <| WL.re (t := 44) (u := .slice A ((ys.set i x2).length) c) (v := .slice A (((ys.set i x2).set ((i - 1) / 2) x1).length) c) rfl (by rw [hl4]) ?_
     have hx8 : ((ys.set i x2).set ((i - 1) / 2) x1)[(i - 1) / 2]? = some x1 := List.getElem?_set_self (aC hx7)
     have k6 := (K7.rm s0)
     refine WH.next k6 ?_
     exact Dn ⟨Y, K7⟩ Y
    refine O2 16 23 Y Y ?_ ?_
    ·
     refine ev (Ev.loadRow jW Y Y ((H1.o s0).dx hx2)) <| WH.next k1 <| O1 23 Y <| ev (Ev.loadRow jW Y Y ((H1.o s0).dx hx1)) ?_
     exact Kj hS1 k1 ⟨Y, H1⟩ Y
    ·
     refine ev (Ev.loadRow jW Y Y ((H1.o s0).dx hx1)) <| WH.next k1 <| O1 16 Y <| ev (Ev.loadRow jW Y Y ((H1.o s0).dx hx2)) ?_
     exact Kj hS1 k1 ⟨Y, H1⟩ Y
   rintro _ w8 ⟨rfl, K8⟩
   refine rg <| mv Y <| aR Y <| dn <| WP.goto ?_
   have hq1 : (.slice A ys.length c : Value) = .slice A (((ys.set i x2).set ((i - 1) / 2) x1).length) c := by rw [List.length_set, List.length_set]
   try rw [hq1] at K8
   exact aA.jag ⟨((i - 1) / 2), ((ys.set i x2).set ((i - 1) / 2) x1), Y, Y, by rw [List.length_set, List.length_set]; exact hyl, by omega, by rw [← hgo]; exact hup, K8⟩ rfl (by omega)
  refine WP.skip (aA.Gp (aA.nL (aA.aD Y Y Y ?_)))
  have hst : Jg (i + 1) ys i = ys := VL (fun x y e1 e2 => by rw [hx1] at e1; cases e1; rw [hx2] at e2; cases e2; rw [show decide (0 < i) = decide ((0 : Int) < (i : Int)) from decide_eq_decide.2 (by omega)]; exact kX)
  have hfi : ys = upL l := by rw [← hst, hup]; rfl
  exact ⟨Y, by rw [← hfi]; exact ((K2.sel s0).sel s1)⟩
 ·
  intro hp0
  refine rg <| mv Y <| ev (Ev.nilCheck Y) <| ev (Ev.field (q := ⟨g, 0, none⟩) gX Y Y) <| ev (Ev.aj mW Y (H0.x s0) Y) <| ev (Ev.len Tryz.underlying82 Y) <| ev (Ev.Uh (a := l.length) (b := 1) Y Y Y (by omega) (by omega)) <| aR Y <| dn <| rg <| aR Y <| dn ?_
  exact WP.kp hp0 ⟨(l.length - 1), l, Y, Y, by rfl, by omega, by rw [Nat.sub_add_cancel h1], ((H0.sel s0).sel s1)⟩ rfl
end Go.Proofs.YtjcklpooaaaglaaGreat
set_option maxRecDepth 4000
set_option linter.all false
namespace Go.Proofs.YtjcklpooaaaglaaGreat
open Go.RowKit
def CU (l : List bK) (a m : Nat) : Bool := match l[a]?, l[m]? with | some x, some y => kg x y | _, _ => false
def eU (l : List bK) (i : Nat) : Nat → Nat
  | 0 => i
  | k + 1 => if CU l (2 * i + 1 + k) (eU l i k) = true then 2 * i + 1 + k else eU l i k
abbrev lsB (l : List bK) (i k : Nat) : Bool := CU l (2 * i + 1 + k) (eU l i k)
theorem OJ {l : List bK} {a m : Nat} {x y : bK} (hx : l[a]? = some x) (hy : l[m]? = some y) : kg x y = CU l a m := by unfold CU; rw [hx, hy]
theorem OL {l : List bK} {a m : Nat} (h : ¬ a < l.length) : false = CU l a m := by unfold CU; rw [List.getElem?_eq_none (by omega)]
theorem qw (l : List bK) (i : Nat) : ∀ k, eU l i k = i ∨ (2 * i + 1 ≤ eU l i k ∧ eU l i k < l.length ∧ i < l.length)
  | 0 => .inl rfl
  | k + 1 => by
    unfold eU
    split
    · rename_i h
      right
      have h1 : 2 * i + 1 + k < l.length := by
        rcases Nat.lt_or_ge (2 * i + 1 + k) l.length with h2 | h2
        · exact h2
        · rw [← OL (by omega)] at h; cases h
      omega
    · exact qw l i k
def nP : Nat → List bK → Nat → List bK
  | 0, l, _ => l
  | f + 1, l, i => if eU l i 2 = i then l else match l[i]?, l[eU l i 2]? with
    | some x, some y => nP f ((l.set i y).set (eU l i 2) x) (eU l i 2)
    | _, _ => l
def zL (l : List bK) : List bK := nP (l.length + 1) l 0
theorem Bq : ∀ (f : Nat) (l : List bK) (i : Nat), (nP f l i).length = l.length
  | 0, _, _ => rfl
  | f + 1, l, i => by
    unfold nP
    split
    · rfl
    · split
      · rw [Bq f, List.length_set, List.length_set]
      · rfl
theorem Ey : ∀ (f f' : Nat) (l : List bK) (i : Nat), l.length - i < f → l.length - i < f' → nP f l i = nP f' l i
  | 0, _, _, _, h, _ => absurd h (Nat.not_lt_zero _)
  | _ + 1, 0, _, _, _, h => absurd h (Nat.not_lt_zero _)
  | f + 1, f' + 1, l, i, h1, h2 => by
    unfold nP
    split
    · rfl
    · rename_i hne
      have h3 := qw l i 2
      split
      · exact Ey f f' _ _ (by rw [List.length_set, List.length_set]; omega) (by rw [List.length_set, List.length_set]; omega)
      · rfl
theorem VP {l : List bK} {i m : Nat} {x y : bK} (hm : eU l i 2 = m) (hne : m ≠ i) (hx : l[i]? = some x) (hy : l[m]? = some y) : nP (l.length - i + 1) l i = nP (l.length - m + 1) ((l.set i y).set m x) m := by
  subst hm
  conv => lhs; unfold nP
  rw [if_neg hne, hx, hy]
  have h3 := qw l i 2
  exact Ey _ _ _ _ (by rw [List.length_set, List.length_set]; omega) (by rw [List.length_set, List.length_set]; omega)
theorem OM {l : List bK} {i : Nat} (h : eU l i 2 = i) : nP (l.length - i + 1) l i = l := by unfold nP; rw [if_pos h]
theorem Jh (a0 : Int) (a1 : Int) : Tryz.prog.built 195 [(0, .int .i64 a0), (1, .int .i64 a1)] = some #[.int .i64 a0, .int .i64 a1] := by kernel_rfl
theorem VQ {b w : World} {S : Nat → Prop} {F : List jP} {g : Nat} {A : an3} {c : Nat} {l : List bK} (H0 : Hp b S w (dG g 162 [.slice A l.length c, .func (.func 126) #[] #[]] :: aQ fP 90 A c l :: F)) (hn : l.length ≤ 1000000) :
    bY Tryz.prog 128 #[.pointer (some ⟨g, 0, none⟩)] w fun v w' => v = .tuple #[] ∧ Hp b S w' (dG g 162 [.slice A (zL l).length c, .func (.func 126) #[] #[]] :: aQ fP 90 A c (zL l) :: F) := by
 refine WP.enter Tryz.func128 Y Tryz.ntmps128 Y ?_
 refine WP.jumps (lb := 0) (fun mJ lJ wJ => ∃ (i : Nat) (ys : List bK), lJ = [(0, .pointer (some ⟨g, 0, none⟩)), (2, .int .i64 ((i : Nat) : Int))] ∧ mJ = l.length - i + 1 ∧ (ys.length = l.length) ∧ (i ≤ l.length) ∧ (nP (ys.length - i + 1) ys i = nP (l.length + 1) l 0) ∧ Hp b S wJ (aQ fP 90 A c ys :: dG g 162 [.slice A ys.length c, .func (.func 126) #[] #[]] :: F)) Y ?_ ?_
 ·
  rintro _ _ w1 ⟨i, ys, rfl, rfl, hyl, hil, hdn, K1⟩
  refine rg <| mv Y <| aR Y <| dn <| WP.seq <| rg <| mv Y <| ev (Ev.mul Y Y (eX.mk (by omega) (by omega))) <| ev (Ev.add Y Y (eX.mk (by omega) (by omega))) <| mv Y <| ev (Ev.mul Y Y (eX.mk (by omega) (by omega))) <| ev (Ev.add Y Y (eX.mk (by omega) (by omega))) <| ev (Ev.build (vs := [(0, .int .i64 ((2 * i + 1 : Nat) : Int)), (1, .int .i64 ((2 * i + 2 : Nat) : Int))]) (cs := [.int .i64 ((2 * i + 1 : Nat) : Int), .int .i64 ((2 * i + 2 : Nat) : Int)]) Y (by apply Jh)) ?_
  refine mv Y <| dn <| WP.block ?_
  have hq1 : (((i : Nat) : Int) : Int) = ((eU ys i 0 : Nat) : Int) := by rfl
  refine WP.re (t := 3) Y (congrArg (Value.int .i64) hq1) <| Lp K1 (fun l0 rk mJ lJ wJ => ∃ (k : Nat), lJ = (3, .int .i64 ((eU ys i k : Nat) : Int)) :: (14, .int .i64 ((k : Nat) : Int)) :: l0 ∧ mJ = 2 - k ∧ k ≤ 2 ∧ Hp b S wJ rk) ⟨0, Y, Y, Nat.zero_le _, K1⟩ Y ?_
  rintro _ _ w2 ⟨k, rfl, rfl, hk, K2⟩
  refine rg <| ev (Ev.lss Y Y) <| dn ?_
  refine WP.cond Y (fun qL => ?_) (fun qL => ?_)
  ·
   replace qL := of_decide_eq_true qL
   refine WP.skip (aA.norm ?_)
   refine WP.seq <| WP.block <| rg <| ev (Ev.aii (v := .int .i64 ((2 * i + 1 + k : Nat) : Int)) (i := k) Tryz.underlying195 iC bf (by omega) Y Y (by rcases (by omega : k = 0 ∨ k = 1) with rfl | rfl <;> rfl)) ?_
   refine aR Y <| dn ?_
   have hlt := qw ys i k
   refine WP.draw (by kernel_rfl) (by kernel_rfl) <| WQ.ev (Ev.move Y) Y <| WQ.ev (Ev.move Y) Y <| WQ.ev (Ev.nilCheck Y) Y <| WQ.ev (Ev.field (q := ⟨g, 0, none⟩) gX Y Y) Y <| WQ.ev (Ev.aj mW Y (K2.x s1) Y) Y <| WQ.ev (Ev.len Tryz.underlying82 Y) Y <| WQ.ev (Ev.lss Y Y) Y <| WQ.ev (Ev.move Y) Y ?_
   refine WQ.dR 20 44 (lsB ys i k) ?_ ?_
   ·
    cases OH : decide (((2 * i + 1 + k : Nat) : Int) < ((ys.length : Nat) : Int)) with
    | true =>
     have ZT := of_decide_eq_true OH
     refine WQ.bF Y (Ev.move Y) Y <| WQ.bF Y (Ev.nilCheck Y) Y <| WQ.bF Y (Ev.field (q := ⟨g, 1, none⟩) LK Y Y) Y <| WQ.bF Y (Ev.aj VN Y (K2.x s1) Y) Y ?_
     refine WQ.bF Y (Ev.move Y) Y <| WQ.bF Y (Ev.nilCheck Y) Y <| WQ.bF Y (Ev.field (q := ⟨g, 0, none⟩) gX Y Y) Y <| WQ.bF Y (Ev.aj mW Y (K2.x s1) Y) Y ?_
     refine WQ.bF Y (Ev.move Y) Y ?_
     obtain ⟨x1, hx1⟩ := get_some (xs := ys) (i := 2 * i + 1 + k) (by omega)
     refine WQ.bF Y (Ev.index (i := 2 * i + 1 + k) Tryz.underlying82 iK Y Y Y (aC hx1) ((K2.o s0).some_ hx1)) Y <| WQ.bF Y (Ev.loadRow jW Y Y ((K2.o s0).dx hx1)) Y ?_
     refine WQ.bF Y (Ev.move Y) Y <| WQ.bF Y (Ev.nilCheck Y) Y <| WQ.bF Y (Ev.field (q := ⟨g, 0, none⟩) gX Y Y) Y <| WQ.bF Y (Ev.aj mW Y (K2.x s1) Y) Y ?_
     refine WQ.bF Y (Ev.move Y) Y ?_
     obtain ⟨x2, hx2⟩ := get_some (xs := ys) (i := eU ys i k) (by omega)
     refine WQ.bF Y (Ev.index (i := eU ys i k) Tryz.underlying82 iK Y Y Y (aC hx2) ((K2.o s0).some_ hx2)) Y <| WQ.bF Y (Ev.loadRow jW Y Y ((K2.o s0).dx hx2)) Y ?_
     refine WQ.jd Y (v := .bool (kg x1 x2)) Y Y Y VO (fun wq eq => (Ew (S0 := Any) wq x1 x2).mono (by rintro _ _ ⟨rfl, hq2⟩; exact ⟨rfl, hq2.ext⟩)) rfl ?_
     refine WQ.ev (Ev.bq Y Y) Y <| WQ.re (t := 44) (u := .bool (kg x1 x2)) (v := .bool (lsB ys i k)) Y (congrArg Value.bool (by exact OJ hx1 hx2)) ?_
     exact WQ.bM Y
    | false =>
     refine WQ.pass Y Y Y <| WQ.pass Y Y Y <| WQ.pass Y Y Y <| WQ.pass Y Y Y <| WQ.pass Y Y Y <| WQ.pass Y Y Y <| WQ.pass Y Y Y <| WQ.pass Y Y Y <| WQ.pass Y Y Y <| WQ.pass Y Y Y <| WQ.pass Y Y Y <| WQ.pass Y Y Y <| WQ.pass Y Y Y <| WQ.pass Y Y Y ?_
     refine WQ.pass Y Y Y <| WQ.pass Y Y Y <| WQ.pass Y Y Y <| WQ.pass Y Y Y <| WQ.pass Y Y Y <| WQ.ev (Ev.bn Y Y) Y <| WQ.re (t := 44) (u := .bool false) (v := .bool (lsB ys i k)) Y (congrArg Value.bool (by exact OL (by have := of_decide_eq_false OH; omega))) ?_
     exact WQ.bM Y
   refine WQ.done fun w3 e3 => ?_
   have K3 := K2.grow e3
   refine WP.aG Y (fun jT => ?_) (fun jT => ?_)
   ·
    refine eP <| mv Y <| aR Y <| eT ?_
    refine aA.aS (aA.norm ?_)
    refine eP <| ev (Ev.add Y Y (eX.mk (by omega) (by omega))) <| mv Y <| eT ?_
    have hq2 : (((2 * i + 1 + k : Nat) : Int) : Int) = ((eU ys i (k + 1) : Nat) : Int) := by simp only [eU]; first | rw [if_pos (show CU ys (2 * i + 1 + k) (eU ys i k) = true from jT)] | rw [if_neg (show ¬ CU ys (2 * i + 1 + k) (eU ys i k) = true by rw [show CU ys (2 * i + 1 + k) (eU ys i k) = false from jT]; decide)]
    refine aA.re (t := 3) Y (congrArg (Value.int .i64) hq2) ?_
    exact aA.ag ⟨(k + 1), Y, Y, by omega, K3⟩ rfl (by omega)
   refine WP.skip (aA.aS (aA.norm ?_))
   refine eP <| ev (Ev.add Y Y (eX.mk (by omega) (by omega))) <| mv Y <| eT ?_
   have hq3 : (((eU ys i k : Nat) : Int) : Int) = ((eU ys i (k + 1) : Nat) : Int) := by simp only [eU]; first | rw [if_pos (show CU ys (2 * i + 1 + k) (eU ys i k) = true from jT)] | rw [if_neg (show ¬ CU ys (2 * i + 1 + k) (eU ys i k) = true by rw [show CU ys (2 * i + 1 + k) (eU ys i k) = false from jT]; decide)]
   refine aA.re (t := 3) Y (congrArg (Value.int .i64) hq3) ?_
   exact aA.ag ⟨(k + 1), Y, Y, by omega, K3⟩ rfl (by omega)
  replace qL := of_decide_eq_false qL
  refine WP.exit (aA.aF (aA.aF (aA.bS (aA.norm ?_))))
  have hk2 : k = 2 := by omega
  have hlm : eU ys i 2 = eU ys i k := by rw [hk2]
  have hlt := qw ys i k
  refine rg <| mv Y <| mv Y <| ev (Ev.neq Y Y) <| dn ?_
  refine WP.aG Y (fun Ez => ?_) (fun Ez => ?_)
  ·
   replace Ez := gJ Ez
   obtain ⟨x3, hx3⟩ := get_some (xs := ys) (i := i) (by omega)
   obtain ⟨x4, hx4⟩ := get_some (xs := ys) (i := eU ys i k) (by omega)
   have hsA := (K2.o s0).some_ hx3
   have hgo := VP hlm (by omega) hx3 hx4
   refine He K2 (fun _ K => (K.rm s0)) (fun l0 rk lJ wJ => lJ = l0 ∧ Hp b S wJ (aQ fP 90 A c ((ys.set i x4).set (eU ys i k) x3) :: rk)) (fun hns H1 => ?_) ?_
   ·
    have k1 := (H1.rm s0)
    refine Tm 0 1 hns Y Y k1 <| Tn 1 3 hns Y (fun _ _ => Ev.nilCheck Y) k1 <| Tn 2 7 hns Y (fun _ _ => Ev.field (q := ⟨g, 0, none⟩) gX Y Y) k1 ?_
    refine Tn 3 15 hns Y (fun _ hK => Ev.aj mW Y (hK.x s0) Y) k1 <| Tm 4 31 hns Y Y k1 <| Tm 5 63 hns Y Y k1 <| Tn 6 127 hns Y (fun _ _ => Ev.nilCheck Y) k1 ?_
    refine Tn 7 255 hns Y (fun _ _ => Ev.field (q := ⟨g, 0, none⟩) gX Y Y) k1 <| Tn 8 511 hns Y (fun _ hK => Ev.aj mW Y (hK.x s0) Y) k1 ?_
    refine Tm 9 1023 hns Y Y k1 <| Tm 10 2047 hns Y Y k1 <| Tn 11 4095 hns Y (fun _ _ => Ev.nilCheck Y) k1 <| Tn 12 8191 hns Y (fun _ _ => Ev.field (q := ⟨g, 0, none⟩) gX Y Y) k1 ?_
    refine Tn 13 16383 hns Y (fun _ hK => Ev.aj mW Y (hK.x s0) Y) k1 <| Tm 14 32767 hns Y Y k1 <| Tn 15 65535 hns Y (fun _ _ => Ev.index (i := eU ys i k) Tryz.underlying82 iK Y Y Y (aC hx4) hsA) k1 ?_
    refine Tm 17 196607 hns Y Y k1 <| Tn 18 458751 hns Y (fun _ _ => Ev.nilCheck Y) k1 <| Tn 19 983039 hns Y (fun _ _ => Ev.field (q := ⟨g, 0, none⟩) gX Y Y) k1 ?_
    refine Tn 20 2031615 hns Y (fun _ hK => Ev.aj mW Y (hK.x s0) Y) k1 <| Tm 21 4128767 hns Y Y k1 <| Tn 22 8323071 hns Y (fun _ _ => Ev.index (i := i) Tryz.underlying82 iK Y Y Y (aC hx3) hsA) k1 ?_
    refine Jn H1 (fun l0 rk lJ wJ => lJ = (66, .agg #[.int .i64 x4.aB, .int .i64 x4.Have, .int .i64 x4.Live]) :: (73, .agg #[.int .i64 x3.aB, .int .i64 x3.Have, .int .i64 x3.Live]) :: l0 ∧ Hp b S wJ rk) 4 16777215 ?_ fun hS1 => ?_
    ·
     rintro _ w6 ⟨rfl, K6⟩
     have k4 := (K6.rm s0)
     refine Tn 24 33554431 hns Y (fun _ _ => Ev.index (i := i) Tryz.underlying82 iK Y Y Y (aC hx3) hsA) k4 <| O1 25 Y ?_
     refine se (i := i) (f := 0) (x := x3) (x' := x4) (ds := [.int .i64 x4.aB, .int .i64 x4.Have, .int .i64 x4.Live]) K6 s0 Y Y Y hx3 Y iK (Nat.le_of_ble_eq_true Y) Y (fun _ _ _ h => by have h' : _ = _ := h; subst h'; rfl) fun w7 K7 => ?_
     have hl3 : (ys.set i x4).length = ys.length := List.length_set ..
     refine WL.re (t := 53) (u := .slice A ys.length c) (v := .slice A ((ys.set i x4).length) c) Y (by rw [hl3]) <| WL.re (t := 58) (u := .slice A ys.length c) (v := .slice A ((ys.set i x4).length) c) rfl (by rw [hl3]) ?_
     have hx8 : (ys.set i x4)[i]? = some x4 := List.getElem?_set_self (aC hx3)
     have k5 := (K7.rm s0)
     refine WH.next k5 ?_
     obtain ⟨x6, hx9⟩ := get_some (xs := (ys.set i x4)) (i := eU ys i k) (by omega)
     refine Tn 26 134217727 hns Y (fun _ _ => Ev.index (i := eU ys i k) Tryz.underlying82 iK Y Y Y (aC hx9) hsA) k5 <| O1 27 Y ?_
     refine se (i := eU ys i k) (f := 0) (x := x6) (x' := x3) (ds := [.int .i64 x3.aB, .int .i64 x3.Have, .int .i64 x3.Live]) K7 s0 Y Y Y hx9 Y iK (Nat.le_of_ble_eq_true Y) Y (fun _ _ _ h => by have h' : _ = _ := h; subst h'; rfl) fun w8 K8 => ?_
     have hl4 : ((ys.set i x4).set (eU ys i k) x3).length = (ys.set i x4).length := List.length_set ..
     refine WL.re (t := 53) (u := .slice A ((ys.set i x4).length) c) (v := .slice A (((ys.set i x4).set (eU ys i k) x3).length) c) Y (by rw [hl4]) <| WL.re (t := 58) (u := .slice A ((ys.set i x4).length) c) (v := .slice A (((ys.set i x4).set (eU ys i k) x3).length) c) rfl (by rw [hl4]) ?_
     have al6 : ((ys.set i x4).set (eU ys i k) x3)[eU ys i k]? = some x3 := List.getElem?_set_self (aC hx9)
     have k6 := (K8.rm s0)
     refine WH.next k6 ?_
     exact Dn ⟨Y, K8⟩ Y
    refine O2 16 23 Y Y ?_ ?_
    ·
     refine ev (Ev.loadRow jW Y Y ((H1.o s0).dx hx4)) <| WH.next k1 <| O1 23 Y <| ev (Ev.loadRow jW Y Y ((H1.o s0).dx hx3)) ?_
     exact Kj hS1 k1 ⟨Y, H1⟩ Y
    ·
     refine ev (Ev.loadRow jW Y Y ((H1.o s0).dx hx3)) <| WH.next k1 <| O1 16 Y <| ev (Ev.loadRow jW Y Y ((H1.o s0).dx hx4)) ?_
     exact Kj hS1 k1 ⟨Y, H1⟩ Y
   rintro _ w9 ⟨rfl, K9⟩
   refine rg <| mv Y <| aR Y <| dn <| WP.goto ?_
   have hq4 : (.slice A ys.length c : Value) = .slice A (((ys.set i x4).set (eU ys i k) x3).length) c := by rw [List.length_set, List.length_set]
   try rw [hq4] at K9
   exact aA.jag ⟨(eU ys i k), ((ys.set i x4).set (eU ys i k) x3), Y, Y, by rw [List.length_set, List.length_set]; exact hyl, by omega, by rw [List.length_set, List.length_set, ← hgo]; exact hdn, K9⟩ rfl (by omega)
  replace Ez := gD Ez
  refine WP.skip (aA.Gp (aA.nL (aA.aD Y Y Y ?_)))
  have hst : nP (ys.length - i + 1) ys i = ys := OM (by omega)
  have hfi : ys = zL l := by rw [← hst, hdn]; rfl
  exact ⟨Y, by rw [← hfi]; exact ((K2.sel s0).sel s1)⟩
 ·
  intro hp0
  refine rg <| aR Y <| aR Y <| dn ?_
  exact WP.kp hp0 ⟨0, l, Y, Y, by rfl, by omega, by rw [Nat.sub_zero], ((H0.sel s0).sel s1)⟩ rfl
end Go.Proofs.YtjcklpooaaaglaaGreat
set_option maxRecDepth 4000
set_option linter.all false
namespace Go.Proofs.YtjcklpooaaaglaaGreat
open Go.RowKit
theorem YZ (l : List bK) : (upL l).length = l.length := Qv _ _ _
theorem SA (l : List bK) : (zL l).length = l.length := Bq _ _ _
def Ji (l : List bK) (n : bK) : List bK := upL (l ++ [n])
theorem VR (l : List bK) (n : bK) : (Ji l n).length = l.length + 1 := by unfold Ji; rw [YZ]; simp
def takeN (l : List bK) : bK := match l[0]? with | some x => x | none => ⟨0, 0, 0⟩
def takeB (l : List bK) : Bool := decide (0 < l.length)
def pQ (l : List bK) : List bK := match l[l.length - 1]? with | some z => zL ((l.set 0 z).take (l.length - 1)) | none => l
theorem Br (l : List bK) : (pQ l).length = l.length - 1 := by
  unfold pQ
  split
  · rw [SA]; simp
  · rename_i h
    have := List.getElem?_eq_none_iff.1 h
    omega
theorem EA {l : List bK} {x : bK} (hx : l[0]? = some x) : takeN l = x := by unfold takeN; rw [hx]
theorem VT {l : List bK} (h : 0 < l.length) : takeB l = true := decide_eq_true h
theorem LP {l : List bK} {z : bK} (hz : l[l.length - 1]? = some z) : pQ l = zL ((l.set 0 z).take (l.length - 1)) := by unfold pQ; rw [hz]
theorem Jj  : Tryz.prog.built 160 [(1, .func (.func 126) #[] #[])] = some #[.slice none 0 0, .func (.func 126) #[] #[]] := by kernel_rfl
theorem SB (LQ : an3) (BS BU : Nat) : Tryz.prog.built 162 [(0, .agg #[.slice LQ BS BU, .func (.func 126) #[] #[]])] = some #[.slice LQ BS BU, .func (.func 126) #[] #[]] := by kernel_rfl
theorem mX : dL Tryz.prog 162 0 0 := fun _ _ => by kernel_rfl
theorem o8 (a0 : Int) (a1 : Int) (a2 : Int) : ∀ w, (Instr.buildSlice 82 1 (List.toArray [(0, .agg #[.int .i64 a0, .int .i64 a1, .int .i64 a2])])).run Tryz.prog w = .ok (.slice (some ⟨w.heap.size, 0, none⟩) 1 1) (w.alloc (.cells (List.toArray [.int .i64 a0, .int .i64 a1, .int .i64 a2]) 90)) := fun _ => by kernel_rfl
theorem EB : je Tryz.prog 90 3 24 := by
  obtain ⟨i, h1, h2, h3, h4⟩ := info_parts (show (Tryz.prog.info? 90).map (fun i => (i.zero, i.size, i.bytes)) = some (some (.agg #[.int .i64 0, .int .i64 0, .int .i64 0]), 3, 24) by kernel_rfl)
  exact ⟨i, _, h1, h2, h3, h4, Y⟩
theorem ZU : Size Tryz.prog 82 1 := fun _ => by kernel_rfl
theorem acz : aM Tryz.prog 127 := fun _ _ => by kernel_rfl
theorem og : ∀ w, (zeroValue 90).run Tryz.prog w = .ok (.agg #[.int .i64 0, .int .i64 0, .int .i64 0]) w := fun _ => by kernel_rfl
theorem acA  : Tryz.prog.built 90 [] = some #[.int .i64 0, .int .i64 0, .int .i64 0] := by kernel_rfl
theorem acB : aM Tryz.prog 128 := fun _ _ => by kernel_rfl
theorem Y0 {S0 : Nat → Prop} (w : World) :
    bY Tryz.prog 78 #[] w fun v w' => ∃ g, v = .pointer (some ⟨g, 0, none⟩) ∧ Hp w S0 w' [dG g 162 [.slice none 0 0, .func (.func 126) #[] #[]], aQ fP 90 none 0 []] := by
 refine WP.enter Tryz.func78 Y Tryz.ntmps78 Y ?_
 have H0 := Hp.init w S0
 refine rg <| aR Y <| dn <| rg <| ev (Ev.build (vs := [(1, .func (.func 126) #[] #[])]) (cs := [.slice none 0 0, .func (.func 126) #[] #[]]) Y (by apply Jj)) <| ev (Ev.build (vs := [(0, .agg #[.slice none 0 0, .func (.func 126) #[] #[]])]) (cs := [.slice none 0 0, .func (.func 126) #[] #[]]) rfl (by apply SB)) ?_
 refine bx Y Y H0 fun g1 w1 K1 => ?_
 refine aR Y <| dn ?_
 refine WP.ret (aA.aD Y Y Y ?_)
 have H1 := K1.nil fP 90
 exact ⟨_, Y, ((H1.sel s0).sel s1)⟩
theorem Y1 {b w : World} {S : Nat → Prop} {F : List jP} {g : Nat} {A : an3} {c : Nat} {l : List bK} (H0 : Hp b S w (dG g 162 [.slice A l.length c, .func (.func 126) #[] #[]] :: aQ fP 90 A c l :: F)) (n : bK) (hn : l.length ≤ 100000) :
    bY Tryz.prog 79 #[.pointer (some ⟨g, 0, none⟩), .agg #[.int .i64 n.aB, .int .i64 n.Have, .int .i64 n.Live]] w fun v w' => v = .tuple #[] ∧ ∃ A' c', Hp b S w' (dG g 162 [.slice A' (Ji l n).length c', .func (.func 126) #[] #[]] :: aQ fP 90 A' c' (Ji l n) :: F) := by
 refine WP.enter Tryz.func79 Y Tryz.ntmps79 Y <| rg ?_
 refine bx Y Y H0 fun g1 w1 K1 => ?_
 refine dn ?_
 refine He K1 (fun _ K => ((K.rm s2).rm s1)) (fun l0 rk lJ wJ => ∃ (jw : an3) (jy : Nat), lJ = l0 ∧ Hp b S wJ (dG g 162 [.slice jw ((l ++ ([n] : List bK)).length) jy, .func (.func 126) #[] #[]] :: aQ fP 90 jw jy (l ++ ([n] : List bK)) :: rk)) (fun hns H1 => ?_) ?_
 ·
  have k1 := ((H1.rm s2).rm s1)
  refine Tm 0 1 hns Y Y k1 <| Tm 1 3 hns Y Y k1 <| Tn 2 7 hns Y (fun _ _ => Ev.nilCheck Y) k1 <| Tn 3 15 hns Y (fun _ _ => Ev.field (q := ⟨g, 0, none⟩) mX Y Y) k1 ?_
  refine Tn 4 31 hns Y (fun _ _ => Ev.field (q := ⟨g, 0, none⟩) gX Y Y) k1 <| Tn 6 95 hns Y (fun _ hK => Ev.bX jW Y Y (hK.x s0)) k1 ?_
  refine Jn H1 (fun l0 rk lJ wJ => ∃ (g2 : Nat), lJ = (9, .slice A l.length c) :: (11, .slice (some ⟨g2, 0, none⟩) (([n] : List bK).length) 1) :: l0 ∧ Hp b S wJ (aQ fP 90 (some ⟨g2, 0, none⟩) 1 ([n] : List bK) :: rk)) 5 255 ?_ fun hS1 => ?_
  ·
   rintro _ w6 ⟨g2, rfl, K6⟩
   refine O1 8 Y ?_
   refine ap (ys := ([n] : List bK)) K6 s3 Y Y (K6.o s0) Tryz.underlying82 EB (by first | omega | (simp; omega) | (simp; done)) (by simp) rfl fun G5 cp2 w7 K7 => ?_
   have k6 := (((K7.rm s3).rm s1).rm s0)
   refine WH.next k6 <| Tn 9 1023 hns Y (fun _ _ => Ev.nilCheck Y) k6 <| Tn 10 2047 hns Y (fun _ _ => Ev.field (q := ⟨g, 0, none⟩) mX Y Y) k6 <| Tn 11 4095 hns Y (fun _ _ => Ev.field (q := ⟨g, 0, none⟩) gX Y Y) k6 ?_
   refine O1 12 Y ?_
   refine BK Y Y Y ZU K7 s3 Y fun w8 K8 => ?_
   have k7 := (((K8.rm s2).rm s1).rm s0)
   refine WH.next k7 ?_
   exact Dn ⟨G5, cp2, Y, (K8.rm s2)⟩ Y
  refine O2 5 7 Y Y ?_ ?_
  ·
   refine ev (Ev.aj mW Y (H1.x s1) Y) <| WH.next k1 <| O1 7 Y ?_
   refine ni (τ := fP) (x := n) Y (by intro _; apply o8) rfl H1 (fun _ _ => rfl) fun g4 w9 K9 => ?_
   have k8 := (((K9.rm s3).rm s2).rm s0)
   exact Kj hS1 k8 ⟨g4, Y, K9⟩ Y
  ·
   refine ni (τ := fP) (x := n) Y (by intro _; apply o8) rfl H1 (fun _ _ => rfl) fun g5 J8 K10 => ?_
   have k9 := (((K10.rm s3).rm s2).rm s0)
   refine WH.next k9 <| O1 5 Y <| ev (Ev.aj mW Y (K10.x s2) Y) ?_
   exact Kj hS1 k9 ⟨g5, Y, K10⟩ Y
 rintro _ Om ⟨jw, jy, rfl, qb⟩
 refine eP <| mv Y <| ev (Ev.nilCheck Y) <| ev (Ev.field (q := ⟨g, 0, none⟩) mX Y Y) <| WL.call Y Y Y acz (acy qb (by first | omega | (simp; done) | (simp; omega)) (by first | omega | (simp; done) | (simp; omega))) rfl ?_
 rintro _ Le ⟨rfl, oH⟩
 refine eT ?_
 refine aA.nL (aA.aD Y Y Y ?_)
 have H2 := (oH.rm s2)
 exact ⟨Y, _, _, H2⟩
theorem LU {b w : World} {S : Nat → Prop} {F : List jP} {g : Nat} {A : an3} {c : Nat} {l : List bK} (H0 : Hp b S w (dG g 162 [.slice A l.length c, .func (.func 126) #[] #[]] :: aQ fP 90 A c l :: F)) (hn : l.length ≤ 100000) :
    bY Tryz.prog 80 #[.pointer (some ⟨g, 0, none⟩)] w fun v w' => v = .tuple #[.agg #[.int .i64 ((takeN l).aB), .int .i64 ((takeN l).Have), .int .i64 ((takeN l).Live)], .bool (takeB l)] ∧ Hp b S w' (dG g 162 [.slice A (pQ l).length c, .func (.func 126) #[] #[]] :: aQ fP 90 A c (pQ l) :: F) := by
 refine WP.enter Tryz.func80 Y Tryz.ntmps80 Y <| rg ?_
 refine al og Y H0 fun g1 w1 K1 => ?_
 refine aR Y <| dn <| rg <| mv Y <| ev (Ev.nilCheck Y) <| ev (Ev.field (q := ⟨g, 0, none⟩) mX Y Y) <| ev (Ev.field (q := ⟨g, 0, none⟩) gX Y Y) <| ev (Ev.aj mW Y (K1.x s1) Y) <| ev (Ev.len Tryz.underlying82 Y) <| ev (Ev.sub Y Y (eX.mk (by omega) (by omega))) <| aR Y <| dn <| WP.seq <| rg <| mv Y <| ev (Ev.lss Y Y) <| dn ?_
 refine WP.aG Y (fun fE => ?_) (fun fE => ?_)
 ·
  replace fE := of_decide_eq_true fE
  refine rg <| ev (Ev.build (vs := []) (cs := [.int .i64 0, .int .i64 0, .int .i64 0]) Y (by apply acA)) ?_
  refine iW Y Y Y iK K1 s0 Y Y fun w2 K2 => ?_
  refine aR Y <| dn ?_
  refine WP.ret (aA.aP (aA.oG Y ⟨_, _, Y, ⟨_, Y, eH (cs := [.int .i64 0, .int .i64 0, .int .i64 0]) jW Y (K2.x s0)⟩, ⟨_, _, Y, Y, Y⟩⟩ ?_))
  have H1 := (K2.rm s0)
  have hl0 : l = [] := List.eq_nil_of_length_eq_zero (by omega)
  exact ⟨by subst hl0; rfl, by subst hl0; exact H1⟩
 replace fE := of_decide_eq_false fE
 refine WP.skip (aA.norm ?_)
 refine WP.re (t := 4) (u := .int .i64 (((l.length : Nat) : Int) - 1)) Y (congrArg (Value.int .i64) (show (((l.length : Nat) : Int) - 1 : Int) = ((l.length - 1 : Nat) : Int) by omega)) ?_
 obtain ⟨x1, hx1⟩ := get_some (xs := l) (i := 0) (by omega)
 obtain ⟨x2, hx2⟩ := get_some (xs := l) (i := l.length - 1) (by omega)
 refine rg <| mv Y <| ev (Ev.nilCheck Y) <| ev (Ev.field (q := ⟨g, 0, none⟩) mX Y Y) <| ev (Ev.field (q := ⟨g, 0, none⟩) gX Y Y) <| ev (Ev.aj mW Y (K1.x s1) Y) <| ev (Ev.index (i := 0) Tryz.underlying82 iK Y Y Y (aC hx1) ((K1.o s2).some_ hx1)) <| ev (Ev.loadRow jW Y Y ((K1.o s2).dx hx1)) ?_
 refine al og Y K1 fun g2 w3 K3 => ?_
 refine iW Y Y Y iK K3 s0 Y Y fun w4 K4 => ?_
 refine dn ?_
 have hsA := (K4.o s3).some_ hx1
 refine He K4 (fun _ K => (K.rm s3)) (fun l0 rk lJ wJ => lJ = (10, .slice A ((l.set 0 x2).length) c) :: (20, .slice A ((l.set 0 x2).length) c) :: l0 ∧ Hp b S wJ (aQ fP 90 A c (l.set 0 x2) :: rk)) (fun hns H2 => ?_) ?_
 ·
  have k1 := (H2.rm s3)
  refine Tm 0 1 hns Y Y k1 <| Tn 1 3 hns Y (fun _ _ => Ev.nilCheck Y) k1 <| Tn 2 7 hns Y (fun _ _ => Ev.field (q := ⟨g, 0, none⟩) mX Y Y) k1 ?_
  refine Tn 3 15 hns Y (fun _ _ => Ev.field (q := ⟨g, 0, none⟩) gX Y Y) k1 <| Tn 4 31 hns Y (fun _ hK => Ev.aj mW Y (hK.x s2) Y) k1 ?_
  refine Tm 5 63 hns Y Y k1 <| Tn 6 127 hns Y (fun _ _ => Ev.nilCheck Y) k1 <| Tn 7 255 hns Y (fun _ _ => Ev.field (q := ⟨g, 0, none⟩) mX Y Y) k1 ?_
  refine Tn 8 511 hns Y (fun _ _ => Ev.field (q := ⟨g, 0, none⟩) gX Y Y) k1 <| Tn 9 1023 hns Y (fun _ hK => Ev.aj mW Y (hK.x s2) Y) k1 ?_
  refine Tm 10 2047 hns Y Y k1 <| Tn 11 4095 hns Y (fun _ _ => Ev.index (i := l.length - 1) Tryz.underlying82 iK Y Y Y (aC hx2) hsA) k1 <| O1 12 Y ?_
  refine ev (Ev.loadRow jW Y Y ((H2.o s3).dx hx2)) <| WH.next k1 <| Tn 13 16383 hns Y (fun _ _ => Ev.index (i := 0) Tryz.underlying82 iK Y Y Y (aC hx1) hsA) k1 ?_
  refine O1 14 Y ?_
  refine se (i := 0) (f := 0) (x := x1) (x' := x2) (ds := [.int .i64 x2.aB, .int .i64 x2.Have, .int .i64 x2.Live]) H2 s3 Y Y Y hx1 Y iK (Nat.le_of_ble_eq_true Y) Y (fun _ _ _ h => by have h' : _ = _ := h; subst h'; rfl) fun w5 K5 => ?_
  have hl1 : (l.set 0 x2).length = l.length := List.length_set ..
  refine WL.re (t := 10) (u := .slice A l.length c) (v := .slice A ((l.set 0 x2).length) c) Y (by rw [hl1]) <| WL.re (t := 20) (u := .slice A l.length c) (v := .slice A ((l.set 0 x2).length) c) rfl (by rw [hl1]) ?_
  refine WL.re (t := 27) (u := .slice A l.length c) (v := .slice A ((l.set 0 x2).length) c) Y (by rw [hl1]) <| WL.re (t := 32) (u := .slice A l.length c) (v := .slice A ((l.set 0 x2).length) c) rfl (by rw [hl1]) ?_
  have hx3 : (l.set 0 x2)[0]? = some x2 := List.getElem?_set_self (aC hx1)
  have k2 := (K5.rm s0)
  refine WH.next k2 ?_
  exact Dn ⟨Y, K5⟩ Y
 rintro _ w6 ⟨rfl, K6⟩
 refine rg <| mv Y <| mv Y <| ev (Ev.nilCheck Y) <| ev (Ev.field (q := ⟨g, 0, none⟩) mX Y Y) <| ev (Ev.field (q := ⟨g, 0, none⟩) gX Y Y) <| ev (Ev.aj mW Y (K6.x s3) Y) <| mv Y ?_
 have hcp := (K6.o s0).cap
 try simp only [List.length_set] at hcp
 refine ev (Ev.Dw (hi := l.length - 1) Tryz.underlying82 iK Y Y Y (by omega)) ?_
 have hct : (((l.set 0 x2)).take (l.length - 1)).length = l.length - 1 := by simp only [List.length_take, List.length_set]; omega
 have H3 := K6.IL (hi := l.length - 1) s0 (by first | omega | (simp only [List.length_set]; omega))
 refine WL.re (t := 44) (v := .slice A (((l.set 0 x2).take (l.length - 1))).length c) Y (by rw [hct]) <| ev (Ev.nilCheck rfl) <| ev (Ev.field (q := ⟨g, 0, none⟩) mX rfl rfl) ?_
 refine ev (Ev.field (q := ⟨g, 0, none⟩) gX Y Y) ?_
 refine BK Y Y Y ZU H3 s3 Y fun w7 K7 => ?_
 refine dn <| rg <| mv Y <| ev (Ev.nilCheck Y) <| ev (Ev.field (q := ⟨g, 0, none⟩) mX Y Y) <| WL.call Y Y Y acB (VQ K7 (by first | omega | (simp; done) | (simp; omega))) rfl ?_
 rintro _ w8 ⟨rfl, K8⟩
 refine dn <| rg <| ev (Ev.bX jW Y Y (K8.x s2)) ?_
 refine iW Y Y Y iK K8 s3 Y Y fun w9 K9 => ?_
 refine aR Y <| dn ?_
 refine WP.ret (aA.oG Y ⟨_, _, Y, ⟨_, Y, eH (cs := [.int .i64 x1.aB, .int .i64 x1.Have, .int .i64 x1.Live]) jW Y (K9.x s0)⟩, ⟨_, _, Y, Y, Y⟩⟩ ?_)
 have H4 := ((K9.rm s3).rm s0)
 exact ⟨by rw [EA hx1, VT (by omega)] <;> rfl, by rw [LP hx2]; exact H4⟩
end Go.Proofs.YtjcklpooaaaglaaGreat
set_option maxRecDepth 4000
set_option linter.all false
namespace Go.Proofs.YtjcklpooaaaglaaGreat
open Go.RowKit
def kV (all : List ANode) (ah : List Int) (aJ : Int) (c : AChunk) : Bool := decide ((0 : Int) < ((gL c ah).length : Int)) && decide (((bR c all ah).length : Int) < aJ)
def lW (all : List ANode) (ah : List Int) (c : AChunk) : bK := ⟨c.ID, ((bR c all ah).length : Int), ((gL c ah).length : Int)⟩
def qM (all : List ANode) (ah : List Int) (aJ : Int) (q : List bK) (c : AChunk) : List bK := if kV all ah aJ c = true then Ji q (lW all ah c) else q
def jv (all : List ANode) (ah : List Int) (aJ : Int) (M : List AChunk) : List bK := M.foldl (qM all ah aJ) []
def drain : Nat → List bK → List bK
  | 0, _ => []
  | f + 1, q => if takeB q = true then takeN q :: drain f (pQ q) else []
def oh (l : List AChunk) (all : List ANode) (ah : List Int) (aJ : Int) : List bK := drain (jv all ah aJ l).length (jv all ah aJ l)
theorem BX {all : List ANode} {ah : List Int} {aJ : Int} {M : List AChunk} {k : Nat} {x : AChunk} (hx : M[k]? = some x) : jv all ah aJ (M.take (k + 1)) = qM all ah aJ (jv all ah aJ (M.take k)) x := by
  unfold jv; rw [dK hx, List.foldl_append]; rfl
theorem EC (all : List ANode) (ah : List Int) (aJ : Int) (M : List AChunk) : (jv all ah aJ M).length ≤ M.length := by
  have key : ∀ (M : List AChunk) (q : List bK), (M.foldl (qM all ah aJ) q).length ≤ q.length + M.length := by
    intro M
    induction M with
    | nil => intro q; simp
    | cons c M ih =>
      intro q
      rw [List.foldl_cons]
      have h1 := ih (qM all ah aJ q c)
      have h2 : (qM all ah aJ q c).length ≤ q.length + 1 := by unfold qM; split; rw [VR]; omega; omega
      simp only [List.length_cons]; omega
  have := key M []
  simpa [jv] using this
theorem ED (q : List bK) : drain q.length q = if takeB q = true then takeN q :: drain (pQ q).length (pQ q) else [] := by
  cases q with
  | nil => rfl
  | cons x q =>
    rw [Br]
    rfl
theorem OO (q : List bK) : (pQ q).length + (if takeB q = true then 1 else 0) = q.length := by
  rw [Br]; unfold takeB
  cases q with
  | nil => rfl
  | cons x q => simp
theorem LV {all : List ANode} {ah : List Int} {aJ : Int} {M : List AChunk} {k : Nat} {x : AChunk} (hx : M[k]? = some x) (h : kV all ah aJ x = true) : Ji (jv all ah aJ (M.take k)) (lW all ah x) = jv all ah aJ (M.take (k + 1)) := by
  rw [BX hx]; unfold qM; rw [if_pos h]
theorem LW {all : List ANode} {ah : List Int} {aJ : Int} {M : List AChunk} {k : Nat} {x : AChunk} (hx : M[k]? = some x) (h : kV all ah aJ x = false) : jv all ah aJ (M.take k) = jv all ah aJ (M.take (k + 1)) := by
  rw [BX hx]; unfold qM; rw [if_neg (by rw [h]; decide)]
theorem aeX : aM Tryz.prog 78 := fun _ _ => by kernel_rfl
theorem om (a0 : Int) (a1 : Int) (a2 : Int) : Tryz.prog.built 90 [(0, .int .i64 a0), (1, .int .i64 a1), (2, .int .i64 a2)] = some #[.int .i64 a0, .int .i64 a1, .int .i64 a2] := by kernel_rfl
theorem aeY : aM Tryz.prog 79 := fun _ _ => by kernel_rfl
theorem ZV : aM Tryz.prog 80 := fun _ _ => by kernel_rfl
set_option maxHeartbeats 1000000 in
theorem VU {S0 : Nat → Prop} (w : World) {d9 : an3} {eu : Nat} {l : List AChunk} (dN : Sl tChunk S0 w d9 eu l) {VW : an3} {VX : Nat} {all : List ANode} (VY : Sl tNode S0 w VW VX all) {cZ : an3} {dh : Nat} {ah : List Int} (cu : Sl tInt S0 w cZ dh ah) (aJ : Int) (hl : l.length ≤ 10000) (hh : ∀ x ∈ l, x.av.length ≤ 100000) (hn : all.length ≤ 100000) :
    bY Tryz.prog 39 #[.slice d9 l.length eu, .slice VW all.length VX, .slice cZ ah.length dh, .int .i64 aJ] w fun v w' => ∃ (A0 : an3) (c0 : Nat), v = .slice A0 ((oh l all ah aJ).length) c0 ∧ Hp w S0 w' [aQ fP 90 A0 c0 (oh l all ah aJ)] := by
 refine WP.enter Tryz.func39 Y Tryz.ntmps39 Y ?_
 have H0 := Hp.init w S0
 have iJ := dN.aN
 have ait := VY.aN
 have iy := cu.aN
 refine rg <| aR Y <| dn <| rg <| WL.call Y Y Y aeX (Y0 (S0 := Any) _) Y ?_
 rintro _ w1 ⟨gq1, rfl, hn1⟩
 have K1 := H0.f2 hn1
 refine aR Y <| dn <| WP.seq <| rg <| mv Y <| ev (Ev.len Tryz.underlying23 Y) <| mv Y <| dn <| WP.block ?_
 have H1 := K1.nil fP 90
 have hq1 : ([] : List bK) = (jv all ah aJ (l.take 0)) := by rfl
 rw [hq1] at H1
 have hq2 : (.slice none 0 0 : Value) = .slice none ((jv all ah aJ (l.take 0)).length) 0 := by rfl
 try rw [hq2] at H1
 refine WP.lp (fun mJ lJ wJ => ∃ (k : Nat) (A9 : an3) (c9 : Nat), lJ = [(1, .slice VW all.length VX), (2, .slice cZ ah.length dh), (3, .int .i64 aJ), (9, .pointer (some ⟨gq1, 0, none⟩)), (17, .slice d9 l.length eu), (18, .int .i64 ((l.length : Nat) : Int)), (19, .int .i64 ((k : Nat) : Int))] ∧ mJ = l.length - k ∧ k ≤ l.length ∧ Hp w S0 wJ [aQ fP 90 A9 c9 (jv all ah aJ (l.take k)), dG gq1 162 [.slice A9 ((jv all ah aJ (l.take k)).length) c9, .func (.func 126) #[] #[]]]) ⟨0, none, 0, Y, Y, Nat.zero_le _, (H1.rm s2)⟩ Y ?_
 rintro _ _ w2 ⟨k, A9, c9, rfl, rfl, hk, K2⟩
 refine rg <| ev (Ev.lss Y Y) <| dn ?_
 refine WP.cond Y (fun iX => ?_) (fun iX => ?_)
 ·
  replace iX := of_decide_eq_true iX
  refine WP.skip (aA.norm ?_)
  refine WP.seq <| WP.block <| rg ?_
  obtain ⟨x1, hx1⟩ := get_some (xs := l) (i := k) (by omega)
  refine ev (Ev.index (i := k) Tryz.underlying23 gu Y Y Y (aC hx1) ((K2.a dN).some_ hx1)) ?_
  obtain ⟨B1, d1, kL, hi1⟩ := AChunk.op (dN.row hx1)
  refine ev (Ev.loadRow (cs := [.int .i64 x1.ID, .int .i64 x1.ay, .int .u32 x1.Sum, .slice B1 x1.av.length d1]) gQ Y Y (oJ (fun j u hu => K2.ext.cell (kL j u hu)))) ?_
  refine al iI Y K2 fun g1 w3 K3 => ?_
  refine iW Y Y Y gu K3 s0 Y Y fun w4 K4 => ?_
  refine dn ?_
  have hhx := hh _ (bV hx1)
  have hql := EC all ah aJ (l.take k)
  simp only [List.length_take] at hql
  refine He K4 (fun _ K => K) (fun l0 rk lJ wJ => ∃ (iZ : Nat), lJ = (12, .pointer (some ⟨iZ, 0, none⟩)) :: l0 ∧ Hp w S0 wJ (dG iZ 90 [.int .i64 x1.ID, .int .i64 (((bR x1 all ah).length : Nat) : Int), .int .i64 (((gL x1 ah).length : Nat) : Int)] :: rk)) (fun hns H2 => ?_) ?_
  ·
   refine Tn 0 1 hns Y (fun _ _ => Ev.field (q := ⟨g1, 0, none⟩) gI Y Y) H2 <| Tn 1 3 hns Y (fun _ hK => Ev.aj bf Y (hK.x s0) Y) H2 <| Tn 2 7 hns Y (fun _ hK => Ev.bX gQ Y Y (hK.x s0)) H2 ?_
   refine Tm 3 15 hns Y Y H2 <| Tm 4 31 hns Y Y H2 <| Tn 7 159 hns Y (fun _ hK => Ev.bX gQ Y Y (hK.x s0)) H2 <| Tm 8 415 hns Y Y H2 ?_
   refine Jn H2 (fun l0 rk lJ wJ => ∃ (EF : an3) (EG g3 : Nat) (zu : an3) (zw : Nat), lJ = (12, .pointer (some ⟨g3, 0, none⟩)) :: (29, .int .i64 (((bR x1 all ah).length : Nat) : Int)) :: (32, .slice EF ((gL x1 ah).length) EG) :: l0 ∧ Hp w S0 wJ (aQ tInt 3 EF EG (gL x1 ah) :: dG g3 90 [.int .i64 0, .int .i64 0, .int .i64 0] :: aQ tInt 3 zu zw (bR x1 all ah) :: rk)) 3 5119 ?_ fun hS1 => ?_
   ·
    rintro _ TM ⟨EF, EG, g3, zu, zw, rfl, vW⟩
    have k9 := (((vW.rm s2).rm s1).rm s0)
    refine Tn 10 6143 hns Y (fun _ _ => Ev.len Tryz.underlying51 Y) k9 <| Tn 11 8191 hns Y (fun _ _ => Ev.build (vs := [(0, .int .i64 x1.ID), (1, .int .i64 (((bR x1 all ah).length : Nat) : Int)), (2, .int .i64 (((gL x1 ah).length : Nat) : Int))]) (cs := [.int .i64 x1.ID, .int .i64 (((bR x1 all ah).length : Nat) : Int), .int .i64 (((gL x1 ah).length : Nat) : Int)]) Y (by apply om)) k9 ?_
    refine O1 13 Y ?_
    refine iW Y Y Y iK vW s1 Y Y fun w16 tQ => ?_
    have k10 := (((tQ.rm s2).rm s1).rm s0)
    refine WH.next k10 ?_
    exact Dn ⟨g3, Y, ((tQ.rm s2).rm s1)⟩ Y
   refine O2 5 12 Y Y ?_ ?_
   ·
    refine WL.call Y Y Y VE (Eh _ x1 (H2.a hi1).any (H2.a VY).any (H2.a cu).any hhx (by omega)) Y ?_
    rintro _ Vh ⟨aeZ, ae0, rfl, h17⟩
    have qp := H2.f1 h17
    have acC := (qp.o s0).aN
    have k11 := (qp.rm s0)
    refine WH.next k11 <| Tn 6 511 hns Y (fun _ _ => Ev.len Tryz.underlying51 Y) k11 ?_
    refine O2 9 12 Y Y ?_ ?_
    ·
     refine WL.call Y Y Y Qs (CZ _ x1 (qp.a hi1).any (qp.a cu).any hhx) Y ?_
     rintro _ Yb ⟨akI, akJ, rfl, h18⟩
     have vX := qp.f1 h18
     have aiw := (vX.o s0).aN
     have k12 := ((vX.rm s1).rm s0)
     refine WH.next k12 <| Tn 10 2047 hns Y (fun _ _ => Ev.len Tryz.underlying51 Y) k12 <| Tn 11 4095 hns Y (fun _ _ => Ev.build (vs := [(0, .int .i64 x1.ID), (1, .int .i64 (((bR x1 all ah).length : Nat) : Int)), (2, .int .i64 (((gL x1 ah).length : Nat) : Int))]) (cs := [.int .i64 x1.ID, .int .i64 (((bR x1 all ah).length : Nat) : Int), .int .i64 (((gL x1 ah).length : Nat) : Int)]) Y (by apply om)) k12 ?_
     refine O1 12 Y ?_
     refine al og Y vX fun g5 ZJ zy => ?_
     have k13 := (((zy.rm s2).rm s1).rm s0)
     refine WH.next k13 <| O1 13 Y ?_
     refine iW Y Y Y iK zy s0 Y Y fun ZK vG => ?_
     have k14 := (((vG.rm s2).rm s1).rm s0)
     refine WH.next k14 ?_
     exact Dn ⟨g5, Y, ((vG.rm s2).rm s1)⟩ Y
    ·
     refine al og Y qp fun g6 YR sJ => ?_
     have k15 := ((sJ.rm s1).rm s0)
     refine WH.next k15 <| O1 9 Y <| WL.call Y Y Y Qs (CZ _ x1 (sJ.a hi1).any (sJ.a cu).any hhx) Y ?_
     rintro _ ZL ⟨LX, LY, rfl, h22⟩
     have yO := sJ.f1 h22
     have OP := (yO.o s0).aN
     have k16 := (((yO.rm s2).rm s1).rm s0)
     exact Kj hS1 k16 ⟨LX, LY, g6, aeZ, ae0, Y, yO⟩ Y
   ·
    refine al og Y H2 fun g7 w23 Ag => ?_
    have k17 := (Ag.rm s0)
    refine WH.next k17 <| O1 5 Y <| WL.call Y Y Y VE (Eh _ x1 (Ag.a hi1).any (Ag.a VY).any (Ag.a cu).any hhx (by omega)) Y ?_
    rintro _ w24 ⟨ZW, ZX, rfl, h24⟩
    have yt := Ag.f1 h24
    have acD := (yt.o s0).aN
    have k18 := ((yt.rm s1).rm s0)
    refine WH.next k18 <| Tn 6 4607 hns Y (fun _ _ => Ev.len Tryz.underlying51 Y) k18 <| O1 9 Y <| WL.call Y Y Y Qs (CZ _ x1 (yt.a hi1).any (yt.a cu).any hhx) Y ?_
    rintro _ w25 ⟨ae1, ae2, rfl, h25⟩
    have yC := yt.f1 h25
    have aiy := (yC.o s0).aN
    have k19 := (((yC.rm s2).rm s1).rm s0)
    exact Kj hS1 k19 ⟨ae1, ae2, g7, ZW, ZX, Y, (((yC.sel s1).sel s2).sel s2)⟩ Y
  rintro _ w26 ⟨iZ, rfl, y8⟩
  refine rg <| ev (Ev.field (q := ⟨iZ, 2, none⟩) rO Y Y) <| ev (Ev.aj bf Y (y8.x s0) Y) <| ev (Ev.gtr Y Y) <| mv Y ?_
  refine WL.dR 5 43 ((decide (0 < (((gL x1 ah).length : Nat) : Int))) && (decide ((((bR x1 all ah).length : Nat) : Int) < aJ))) ?_ ?_
  ·
   cases VZ : decide (0 < (((gL x1 ah).length : Nat) : Int)) with
   | true =>
    have Qw := of_decide_eq_true VZ
    refine WL.bF Y (Ev.field (q := ⟨iZ, 1, none⟩) oW Y Y) Y <| WL.bF Y (Ev.aj bf Y (y8.x s0) Y) Y <| WL.bF Y (Ev.move Y) Y ?_
    refine WL.bF Y (Ev.lss Y Y) Y <| ev (Ev.bq Y Y) ?_
    exact WL.bM Y
   | false =>
    refine WL.pass Y Y Y <| WL.pass Y Y Y <| WL.pass Y Y Y <| WL.pass Y Y Y <| ev (Ev.bn Y Y) ?_
    exact WL.bM Y
  refine dn ?_
  refine WP.aG Y (fun En => ?_) (fun En => ?_)
  ·
   refine eP <| mv Y <| ev (Ev.bX jW Y Y (y8.x s0)) <| WL.call Y Y Y aeY (Y1 ((((y8.sel s1).sel s1).sel s2).sel s3) (⟨x1.ID, (((bR x1 all ah).length : Nat) : Int), (((gL x1 ah).length : Nat) : Int)⟩ : bK) (by omega)) Y ?_
   rintro _ w27 ⟨rfl, Aq1, cq1, zA⟩
   refine eT ?_
   refine aA.aS (aA.norm ?_)
   refine eP <| ev (Ev.add Y Y (eX.mk (by omega) (by omega))) <| mv Y <| eT ?_
   have hq3 : ((Ji (jv all ah aJ (l.take k)) (⟨x1.ID, (((bR x1 all ah).length : Nat) : Int), (((gL x1 ah).length : Nat) : Int)⟩ : bK)) : List bK) = (jv all ah aJ (l.take (k + 1))) := by first | exact LV hx1 En | exact LW hx1 En
   rw [hq3] at zA
   exact aA.ag ⟨(k + 1), Aq1, cq1, Y, Y, by omega, ((((zA.rm s3).rm s2).sel s0).sel s1)⟩ rfl (by omega)
  refine WP.skip (aA.aS (aA.norm ?_))
  refine eP <| ev (Ev.add Y Y (eX.mk (by omega) (by omega))) <| mv Y <| eT ?_
  have hq4 : ((jv all ah aJ (l.take k)) : List bK) = (jv all ah aJ (l.take (k + 1))) := by first | exact LV hx1 En | exact LW hx1 En
  rw [hq4] at y8
  exact aA.ag ⟨(k + 1), A9, c9, Y, Y, by omega, ((y8.rm s1).rm s0)⟩ rfl (by omega)
 replace iX := of_decide_eq_false iX
 refine WP.exit (aA.aF (aA.aF (aA.bS (aA.norm ?_))))
 refine rg <| aR Y <| dn <| WP.seq ?_
 have hql := EC all ah aJ (l.take k)
 simp only [List.length_take] at hql
 refine rg <| mv Y <| WL.call Y Y Y ZV (LU ((K2.sel s0).sel s1) (by omega)) Y ?_
 rintro _ ZM ⟨rfl, yP⟩
 refine mv Y <| xt Y Y <| xt Y Y ?_
 refine al og Y yP fun g8 ZN Bd => ?_
 refine iW Y Y Y iK Bd s0 Y Y fun w30 Ah => ?_
 refine aR Y <| dn <| WP.block ?_
 have H3 := Ah.nil fP 90
 have H4 := H3.nil fP 90
 refine Lp (((((H4.rm s4).rm s3).rm s2).rm s1).rm s0) (fun l0 rk mJ lJ wJ => ∃ (A9 : an3) (c9 : Nat) (q : List bK) (n : bK) (f : Bool) (g14 : Nat) (out : List bK) (A13 : an3) (c13 : Nat), lJ = (13, .slice A13 out.length c13) :: (14, .pointer (some ⟨g14, 0, none⟩)) :: (15, .bool f) :: l0 ∧ mJ = q.length + (if f = true then 1 else 0) ∧ (out ++ (if f = true then n :: drain q.length q else []) = oh l all ah aJ) ∧ (q.length + (if f = true then 1 else 0) + out.length ≤ 20000) ∧ Hp w S0 wJ (aQ fP 90 A9 c9 q :: dG gq1 162 [.slice A9 q.length c9, .func (.func 126) #[] #[]] :: dG g14 90 [.int .i64 n.aB, .int .i64 n.Have, .int .i64 n.Live] :: aQ fP 90 A13 c13 out :: rk)) ⟨A9, c9, (pQ (jv all ah aJ (l.take k))), (takeN (jv all ah aJ (l.take k))), (takeB (jv all ah aJ (l.take k))), g8, ([] : List bK), none, 0, Y, Y, by rw [List.nil_append, ← ED, List.take_of_length_le (by omega)]; rfl, by rw [OO]; simp only [List.length_nil]; omega, (((((H4.rm s1).sel s0).sel s1).sel s2).sel s3)⟩ rfl ?_
 rintro _ _ w31 ⟨A9, c9, q, n, f, g14, out, A13, c13, rfl, rfl, hdr, ama, F4⟩
 refine WP.seq <| rg <| mv Y <| dn ?_
 refine WP.aG Y (fun Y2 => ?_) (fun Y2 => ?_)
 ·
  refine WP.skip (aA.norm ?_)
  refine WP.seq <| WP.block ?_
  have htm := OO q
  have hif : (if f = true then 1 else 0 : Nat) = 1 := if_pos Y2
  refine eP <| mv Y <| ev (Ev.bX jW Y Y (F4.x s2)) ?_
  refine ni (τ := fP) (x := n) Y (by intro _; apply o8) rfl F4 (fun _ _ => rfl) fun g9 w32 FM => ?_
  refine ap (ys := ([n] : List bK)) FM s4 Y Y (FM.o s0) Tryz.underlying82 EB (by omega) (by simp) Y fun jg jh w33 Oo => ?_
  refine aR Y <| eT ?_
  refine aA.aS (aA.norm ?_)
  refine WP.seq <| rg <| ev (Ev.bX jW Y Y (Oo.x s4)) <| dn <| eP ?_
  refine al og Y Oo fun g10 w34 Oq => ?_
  refine iW Y Y Y iK Oq s0 Y Y fun w35 LZ => ?_
  refine eT <| aA.norm <| eP <| mv Y <| WL.call Y Y Y ZV (LU (((((LZ.sel s2).sel s2).sel s2).sel s3).sel s4) (by omega)) Y ?_
  rintro _ w36 ⟨rfl, L6⟩
  refine mv Y <| xt Y Y <| xt Y Y ?_
  refine iW Y Y Y iK L6 s2 Y Y fun w37 L8 => ?_
  refine aR Y <| eT ?_
  exact aA.ag ⟨A9, c9, (pQ q), (takeN q), (takeB q), g10, (out ++ ([n] : List bK)), jg, jh, Y, Y, by rw [← ED]; simpa [Y2] using hdr, by rw [OO]; simp only [List.length_append, List.length_cons, List.length_nil]; omega, (((((L8.rm s5).rm s4).sel s0).sel s1).sel s2)⟩ rfl (by omega)
 refine WP.exit (aA.aF (aA.aF (aA.bS (aA.norm ?_))))
 refine rg <| mv Y <| aR Y <| dn ?_
 refine WP.ret (aA.aD Y Y Y ?_)
 have kP : (out : List bK) = (oh l all ah aJ) := by simpa [Y2] using hdr
 have H5 := (kP ▸ F4 : Hp w S0 w31 [aQ fP 90 A9 c9 q, dG gq1 162 [.slice A9 q.length c9, .func (.func 126) #[] #[]], dG g14 90 [.int .i64 n.aB, .int .i64 n.Have, .int .i64 n.Live], aQ fP 90 A13 c13 (oh l all ah aJ)])
 exact ⟨A13, c13, by rw [← kP] <;> rfl, (((H5.rm s2).rm s1).rm s0)⟩
end Go.Proofs.YtjcklpooaaaglaaGreat
set_option maxRecDepth 4000
set_option linter.all false
namespace Go.Proofs.YtjcklpooaaaglaaGreat
open Go.RowKit
theorem xO {a b : bK} : kg a b = true ↔ a.Live < b.Live ∨ (a.Live = b.Live ∧ (a.Have < b.Have ∨ (a.Have = b.Have ∧ a.aB < b.aB))) := by
  unfold kg zx dP
  by_cases h1 : a.Live < b.Live <;> by_cases h2 : b.Live < a.Live <;> by_cases h3 : a.Have < b.Have <;> by_cases h4 : b.Have < a.Have <;> by_cases h5 : a.aB < b.aB <;> by_cases h6 : b.aB < a.aB <;> simp [h1, h2, h3, h4, h5, h6] <;> omega
theorem wQ {a b : bK} : kg a b = false ↔ ¬ (a.Live < b.Live ∨ (a.Live = b.Live ∧ (a.Have < b.Have ∨ (a.Have = b.Have ∧ a.aB < b.aB)))) := by
  rw [← xO]; cases kg a b <;> simp
def uP (a b : bK) : Prop := kg b a = false
theorem uP.tr {a b c : bK} (h1 : uP a b) (h2 : uP b c) : uP a c := by unfold uP at *; rw [wQ] at *; omega
theorem uP.of {a b : bK} (h : kg a b = true) : uP a b := by unfold uP; rw [xO] at h; rw [wQ]; omega
theorem uP.rf (a : bK) : uP a a := by unfold uP; rw [wQ]; omega
theorem uP.anti {a b : bK} (h1 : uP a b) (h2 : uP b a) : a = b := by
  unfold uP at *; rw [wQ] at *
  obtain ⟨a1, a2, a3⟩ := a; obtain ⟨b1, b2, b3⟩ := b
  simp only [bK.mk.injEq] at *; omega
def Edge (l : List bK) (j : Nat) : Prop := ∀ x y, l[(j - 1) / 2]? = some x → l[j]? = some y → uP x y
def pR (l : List bK) : Prop := ∀ j, 0 < j → Edge l j
theorem L9 {l : List bK} {i p j : Nat} {x y : bK} (hi : i < l.length) (hp : p < l.length) (hne : p ≠ i) : ((l.set i y).set p x)[j]? = if j = p then some x else if j = i then some y else l[j]? := by
  rw [List.getElem?_set, List.getElem?_set, List.length_set]
  by_cases h1 : p = j
  · subst h1; simp [hp]
  · rw [if_neg h1, if_neg (show ¬ j = p from fun h => h1 h.symm)]
    by_cases h2 : i = j
    · subst h2; rw [if_pos rfl, if_pos rfl, if_pos hi]
    · rw [if_neg h2, if_neg (show ¬ j = i from fun h => h2 h.symm)]
theorem swap_perm {l : List bK} {i p : Nat} {x y : bK} (hx : l[i]? = some x) (hy : l[p]? = some y) : ((l.set i y).set p x).Perm l := by
  obtain ⟨h1, rfl⟩ := List.getElem?_eq_some_iff.1 hx
  obtain ⟨h2, rfl⟩ := List.getElem?_eq_some_iff.1 hy
  exact List.set_set_perm h1 h2
theorem Mc : ∀ (f : Nat) (l : List bK) (i : Nat), (Jg f l i).Perm l
  | 0, _, _ => List.Perm.refl _
  | f + 1, l, i => by
    unfold Jg
    split
    · rename_i x y hx hy
      split
      · exact (Mc f _ _).trans (swap_perm hx hy)
      · exact List.Perm.refl _
    · exact List.Perm.refl _
theorem EH : ∀ (f : Nat) (l : List bK) (i : Nat), (nP f l i).Perm l
  | 0, _, _ => List.Perm.refl _
  | f + 1, l, i => by
    unfold nP
    split
    · exact List.Perm.refl _
    · split
      · rename_i x y hx hy
        exact (EH f _ _).trans (swap_perm hx hy)
      · exact List.Perm.refl _
theorem Md : ∀ (f : Nat) (l : List bK) (i : Nat), i < f → i < l.length → (∀ j, 0 < j → j ≠ i → Edge l j) →
    (∀ j, (j - 1) / 2 = i → 0 < i → 0 < j → ∀ z y, l[(i - 1) / 2]? = some z → l[j]? = some y → uP z y) → pR (Jg f l i)
  | 0, _, _, h, _, _, _ => absurd h (Nat.not_lt_zero _)
  | f + 1, l, i, hf, hi, h1, h2 => by
    unfold Jg
    have hp : (i - 1) / 2 < l.length := by omega
    obtain ⟨x, hx⟩ := get_some (xs := l) (i := i) hi
    obtain ⟨y, hy⟩ := get_some (xs := l) (i := (i - 1) / 2) hp
    rw [hx, hy]
    show pR (if (decide (0 < i) && kg x y) = true then _ else _)
    split
    · rename_i hc
      simp only [Bool.and_eq_true, decide_eq_true_eq] at hc
      have hne : (i - 1) / 2 ≠ i := by omega
      have hg := fun j => L9 (j := j) (x := x) (y := y) hi hp hne
      refine Md f _ _ (by omega) (by rw [List.length_set, List.length_set]; omega) (fun j hj hjp u v hu hv => ?_) (fun j hj hp0 hj0 u v hu hv => ?_)
      · rw [hg] at hu hv
        rw [if_neg hjp] at hv
        by_cases e1 : j = i
        · subst e1
          rw [if_pos rfl] at hu hv
          cases hu; cases hv; exact uP.of hc.2
        · rw [if_neg e1] at hv
          by_cases e2 : (j - 1) / 2 = (i - 1) / 2
          · rw [if_pos e2] at hu
            cases hu
            exact (uP.of hc.2).tr (h1 j hj e1 _ _ (e2 ▸ hy) hv)
          · rw [if_neg e2] at hu
            by_cases e3 : (j - 1) / 2 = i
            · rw [if_pos e3] at hu; cases hu
              exact h2 j e3 hc.1 hj _ _ hy hv
            · rw [if_neg e3] at hu
              exact h1 j hj e1 _ _ hu hv
      · rw [hg] at hu hv
        rw [if_neg (by omega), if_neg (by omega)] at hu
        have hyu := h1 _ hp0 hne _ _ hu hy
        rw [if_neg (by omega)] at hv
        by_cases e1 : j = i
        · rw [if_pos e1] at hv; cases hv; exact hyu
        · rw [if_neg e1] at hv
          exact hyu.tr (h1 j hj0 e1 _ _ (hj ▸ hy) hv)
    · rename_i hc
      intro j hj
      by_cases e : j = i
      · subst e
        intro u v hu hv
        rw [hy] at hu; rw [hx] at hv; cases hu; cases hv
        unfold uP
        cases hq : kg x y
        · rfl
        · exact absurd (by simp [hq, hj]) hc
      · exact h1 j hj e
theorem EI (l : List bK) (i : Nat) {x : bK} (hx : l[i]? = some x) : ∀ k, ∃ y, l[eU l i k]? = some y ∧ uP y x ∧ (eU l i k ≠ i → kg y x = true) ∧ ∀ q, q < k → ∀ z, l[2 * i + 1 + q]? = some z → uP y z
  | 0 => ⟨x, hx, uP.rf x, fun h => absurd rfl h, fun q h => absurd h (Nat.not_lt_zero _)⟩
  | k + 1 => by
    obtain ⟨y, h1, h2, h3, h4⟩ := EI l i hx k
    unfold eU
    split
    · rename_i hc
      have hlt : 2 * i + 1 + k < l.length := by
        rcases Nat.lt_or_ge (2 * i + 1 + k) l.length with h5 | h5
        · exact h5
        · rw [← OL (by omega)] at hc; cases hc
      obtain ⟨z, hz⟩ := get_some (xs := l) (i := 2 * i + 1 + k) hlt
      rw [← OJ hz h1] at hc
      refine ⟨z, hz, (uP.of hc).tr h2, fun _ => ?_, fun q hq u hu => ?_⟩
      · unfold uP at h2; rw [wQ] at h2; rw [xO] at hc ⊢; omega
      · rcases Nat.lt_or_ge q k with h5 | h5
        · exact (uP.of hc).tr (h4 q h5 u hu)
        · obtain rfl : q = k := by omega
          rw [hz] at hu; cases hu; exact uP.rf _
    · rename_i hc
      refine ⟨y, h1, h2, h3, fun q hq u hu => ?_⟩
      rcases Nat.lt_or_ge q k with h5 | h5
      · exact h4 q h5 u hu
      · obtain rfl : q = k := by omega
        rw [← OJ hu h1] at hc
        unfold uP; simpa using hc
theorem Hg (l : List bK) (i : Nat) : ∀ k, eU l i k = i ∨ eU l i k ≤ 2 * i + k
  | 0 => .inl rfl
  | k + 1 => by
    unfold eU; split
    · right; omega
    · have := Hg l i k; omega
theorem EJ : ∀ (f : Nat) (l : List bK) (i : Nat), l.length - i < f → i < l.length → (∀ j, 0 < j → (j - 1) / 2 ≠ i → Edge l j) →
    (∀ j, (j - 1) / 2 = i → 0 < i → 0 < j → ∀ z y, l[(i - 1) / 2]? = some z → l[j]? = some y → uP z y) → pR (nP f l i)
  | 0, _, _, h, _, _, _ => absurd h (Nat.not_lt_zero _)
  | f + 1, l, i, hf, hi, h1, h2 => by
    unfold nP
    obtain ⟨x, hx⟩ := get_some (xs := l) (i := i) hi
    obtain ⟨y, hy, hyx, hy3, hy4⟩ := EI l i hx 2
    have hlt := qw l i 2
    have hle := Hg l i 2
    generalize eU l i 2 = m at *
    split
    · rename_i e
      subst e
      rw [hx] at hy; cases hy
      intro j hj
      by_cases e : (j - 1) / 2 = m
      · intro u v hu hv
        rw [e, hx] at hu; cases hu
        exact hy4 (j - (2 * m + 1)) (by omega) v (by rw [show 2 * m + 1 + (j - (2 * m + 1)) = j by omega]; exact hv)
      · exact h1 j hj e
    · rename_i hne
      rw [hx, hy]
      show pR (nP f ((l.set i y).set m x) m)
      have hm : m < l.length := aC hy
      have hpm : (m - 1) / 2 = i := by omega
      have hg := fun j => L9 (j := j) (x := x) (y := y) hi hm hne
      refine EJ f _ _ (by rw [List.length_set, List.length_set]; omega) (by rw [List.length_set, List.length_set]; omega) (fun j hj hjp u v hu hv => ?_) (fun j hj hp0 hj0 u v hu hv => ?_)
      · rw [hg] at hu hv
        rw [if_neg hjp] at hu
        by_cases e1 : j = m
        · subst e1
          rw [if_pos rfl] at hv; rw [if_pos hpm] at hu
          cases hu; cases hv; exact hyx
        · rw [if_neg e1] at hv
          by_cases e2 : j = i
          · subst e2
            rw [if_pos rfl] at hv; cases hv
            rw [if_neg (by omega)] at hu
            exact h2 m hpm hj (by omega) _ _ hu hy
          · rw [if_neg e2] at hv
            by_cases e3 : (j - 1) / 2 = i
            · rw [if_pos e3] at hu; cases hu
              exact hy4 (j - (2 * i + 1)) (by omega) v (by rw [show 2 * i + 1 + (j - (2 * i + 1)) = j by omega]; exact hv)
            · rw [if_neg e3] at hu
              exact h1 j hj e3 _ _ hu hv
      · rw [hg] at hu hv
        rw [if_neg (by omega), if_pos hpm] at hu; cases hu
        rw [if_neg (by omega), if_neg (by omega)] at hv
        exact h1 j hj0 (by omega) _ _ (hj ▸ hy) hv
theorem pR.top {l : List bK} (h : pR l) {t : bK} (ht : l[0]? = some t) : ∀ (j : Nat) (y : bK), l[j]? = some y → uP t y := fun j => by
  induction j using Nat.strongRecOn with
  | ind j ih =>
    intro y hy
    by_cases e : j = 0
    · subst e; rw [ht] at hy; cases hy; exact uP.rf _
    · have hj := aC hy
      obtain ⟨x, hx⟩ := get_some (xs := l) (i := (j - 1) / 2) (by omega)
      exact (ih _ (by omega) x hx).tr (h j (by omega) x y hx hy)
theorem V3 {l : List bK} (hl : 0 < l.length) (h : ∀ j, 0 < j → j ≠ l.length - 1 → Edge l j) : pR (upL l) :=
  Md _ _ _ (by omega) (by omega) h fun j hj hp hj0 z y _ hy => by have := aC hy; omega
theorem SC {l : List bK} (h : pR l) (n : bK) : pR (Ji l n) := by
  refine V3 (by simp) fun j hj hne x y hx hy => ?_
  have hlt := aC hy
  simp only [List.length_append, List.length_cons, List.length_nil] at hlt hne
  rw [List.getElem?_append_left (by omega)] at hx hy
  exact h j hj x y hx hy
theorem SE (l : List bK) (n : bK) : (Ji l n).Perm (n :: l) := (Mc _ _ _).trans List.perm_append_comm
theorem OQ {l : List bK} (h : ∀ j, 0 < j → (j - 1) / 2 ≠ 0 → Edge l j) : pR (zL l) := by
  rcases Nat.eq_zero_or_pos l.length with h0 | h0
  · obtain rfl := List.eq_nil_of_length_eq_zero h0
    intro j _ x y hx hy
    have := aC hy
    unfold zL at this; rw [Bq] at this; simp at this
  · exact EJ _ _ _ (by omega) h0 h fun j hj h0 => by omega
theorem OT {l : List bK} (h : pR l) : pR (pQ l) := by
  unfold pQ
  split
  · rename_i z hz
    refine OQ fun j hj hne x y hx hy => ?_
    have hlt := aC hy
    rw [List.getElem?_take_of_lt (by simp at hlt; omega), List.getElem?_set_ne (by omega)] at hx hy
    exact h j hj x y hx hy
  · exact h
theorem EK {l : List bK} (hl : 0 < l.length) : (takeN l :: pQ l).Perm l := by
  obtain ⟨t, ht⟩ := get_some (xs := l) (i := 0) hl
  obtain ⟨z, hz⟩ := get_some (xs := l) (i := l.length - 1) (by omega)
  rw [EA ht, LP hz]
  have h1 : (zL ((l.set 0 z).take (l.length - 1))).Perm ((l.set 0 z).take (l.length - 1)) := EH _ _ _
  refine (h1.cons t).trans ?_
  cases l with
  | nil => simp at hl
  | cons a r =>
    simp only [List.getElem?_cons_zero, Option.some.injEq] at ht; subst ht
    simp only [List.length_cons, Nat.add_sub_cancel, List.set_cons_zero] at hz ⊢
    cases hr : r.length with
    | zero => obtain rfl := List.eq_nil_of_length_eq_zero hr; exact List.Perm.refl _
    | succ m =>
      rw [hr] at hz
      rw [List.take_succ_cons]
      simp only [List.getElem?_cons_succ] at hz
      have h2 : r = r.take m ++ [z] := by
        obtain ⟨hm, hz'⟩ := List.getElem?_eq_some_iff.1 hz
        have h3 : r.drop m = [z] := by rw [List.drop_eq_getElem_cons hm, hz', List.drop_of_length_le (by omega)]
        have := List.take_append_drop m r
        rw [h3] at this; exact this.symm
      refine List.Perm.cons _ ?_
      conv => rhs; rw [h2]
      exact (List.perm_append_comm (l₁ := [z]))
theorem Me : ∀ (f : Nat) (q : List bK), q.length ≤ f → pR q → (drain f q).Perm q ∧ (drain f q).Pairwise uP
  | 0, q, h, _ => by obtain rfl := List.eq_nil_of_length_eq_zero (Nat.le_zero.1 h); exact ⟨List.Perm.refl _, List.Pairwise.nil⟩
  | f + 1, q, h, hh => by
    unfold drain
    split
    · rename_i hc
      have hl : 0 < q.length := of_decide_eq_true hc
      have ih := Me f (pQ q) (by rw [Br]; omega) (OT hh)
      refine ⟨(ih.1.cons _).trans (EK hl), List.pairwise_cons.2 ⟨fun y hy => ?_, ih.2⟩⟩
      obtain ⟨t, ht⟩ := get_some (xs := q) (i := 0) hl
      rw [EA ht]
      have hm : y ∈ q := (EK hl).mem_iff.1 (List.mem_cons_of_mem _ (ih.1.mem_iff.1 hy))
      obtain ⟨j, hj⟩ := List.getElem?_of_mem hm
      exact hh.top ht j y hj
    · rename_i hc
      have hl : ¬ 0 < q.length := fun h => hc (decide_eq_true h)
      obtain rfl := List.eq_nil_of_length_eq_zero (show q.length = 0 by omega)
      exact ⟨List.Perm.refl _, List.Pairwise.nil⟩
theorem SF (all : List ANode) (ah : List Int) (aJ : Int) (M : List AChunk) : (jv all ah aJ M).Perm ((M.filter (kV all ah aJ)).map (lW all ah)) ∧ pR (jv all ah aJ M) := by
  have key : ∀ (M : List AChunk) (q : List bK), pR q → (M.foldl (qM all ah aJ) q).Perm (q ++ (M.filter (kV all ah aJ)).map (lW all ah)) ∧ pR (M.foldl (qM all ah aJ) q) := by
    intro M
    induction M with
    | nil => intro q h; exact ⟨by simp, h⟩
    | cons c M ih =>
      intro q h
      rw [List.foldl_cons, List.filter_cons]
      unfold qM
      split
      · rename_i hc
        have h1 := ih _ (SC h (lW all ah c))
        refine ⟨h1.1.trans ?_, h1.2⟩
        rw [List.map_cons]
        exact ((SE _ _).append_right _).trans (List.perm_middle (l₁ := q)).symm
      · rename_i hc
        exact ih q h
  have := key M [] (fun j hj x y hx => by simp at hx)
  simpa [jv] using this
theorem Bt (l : List AChunk) (all : List ANode) (ah : List Int) (aJ : Int) : (oh l all ah aJ).Perm ((l.filter (kV all ah aJ)).map (lW all ah)) ∧ (oh l all ah aJ).Pairwise uP := by
  have h1 := SF all ah aJ l
  have h2 := Me _ _ (Nat.le_refl _) h1.2
  exact ⟨h2.1.trans h1.1, h2.2⟩
theorem OU {l : List AChunk} {all : List ANode} {ah : List Int} {aJ : Int} {n : bK} : n ∈ oh l all ah aJ ↔ ∃ c ∈ l, kV all ah aJ c = true ∧ n = lW all ah c := by
  rw [(Bt l all ah aJ).1.mem_iff, List.mem_map]
  constructor
  · rintro ⟨c, h, rfl⟩; exact ⟨c, (List.mem_filter.1 h).1, (List.mem_filter.1 h).2, rfl⟩
  · rintro ⟨c, h1, h2, rfl⟩; exact ⟨c, List.mem_filter.2 ⟨h1, h2⟩, rfl⟩
theorem EL (l : List AChunk) (all : List ANode) (ah : List Int) (aJ : Int) : (oh l all ah aJ).length ≤ l.length := by
  rw [(Bt l all ah aJ).1.length_eq, List.length_map]; exact List.length_filter_le _ _
end Go.Proofs.YtjcklpooaaaglaaGreat
