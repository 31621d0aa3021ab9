/- Texts that the statement needs, with short names. -/
import Derived.Test.YtjcklpooaaaglaaGreatvG7
set_option maxRecDepth 4000
set_option linter.all false
namespace Go.Proofs.YtjcklpooaaaglaaGreat
open Go.RowKit
structure ARules where
  eG : Int
  fU : Int
  All : Int
  gy : Int
  dW : Int
  aK : Int
  deriving DecidableEq
def ARules.enc (x : ARules) : List Value := [.int .i64 x.eG, .int .i64 x.fU, .int .i64 x.All, .int .i64 x.gy, .int .i64 x.dW, .int .i64 x.aK]
theorem ARules.iB (x : ARules) : ∀ u ∈ x.enc, u.oneCell' = true := by
  intro u hu
  simp only [ARules.enc, List.mem_cons, List.not_mem_nil, or_false] at hu
  rcases hu with rfl | rfl | rfl | rfl | rfl | rfl <;> rfl
def ARules.wf (x : ARules) : Prop := InI64 x.eG ∧ InI64 x.fU ∧ InI64 x.All ∧ InI64 x.gy ∧ InI64 x.dW ∧ InI64 x.aK
def tRules : Ty ARules := Ty.flat 6 ARules.enc (by decide) (fun _ => rfl) ARules.iB
instance : Flat tRules := ⟨fun h => h⟩
structure ASoft where
  bU : List ABeat
  bI : List ALease
  bH : List AOrder
  deriving DecidableEq
def ASoft.enc (x : ASoft) (B0 : an3) (d0 : Nat) (B1 : an3) (d1 : Nat) (B2 : an3) (d2 : Nat) : List Value := [.slice B0 x.bU.length d0, .slice B1 x.bI.length d1, .slice B2 x.bH.length d2]
theorem ASoft.iB (x : ASoft) (B0 : an3) (d0 : Nat) (B1 : an3) (d1 : Nat) (B2 : an3) (d2 : Nat) : ∀ u ∈ x.enc B0 d0 B1 d1 B2 d2, u.oneCell' = true := by
  intro u hu
  simp only [ASoft.enc, List.mem_cons, List.not_mem_nil, or_false] at hu
  rcases hu with rfl | rfl | rfl <;> rfl
def ASoft.wf (x : ASoft) : Prop := (∀ y ∈ x.bU, ABeat.wf y) ∧ (∀ y ∈ x.bI, ALease.wf y) ∧ (∀ y ∈ x.bH, AOrder.wf y)
def tSoft : Ty ASoft where
  k := 3
  pos := by decide
  R := fun S w x cs => ∃ (B0 : an3) (d0 : Nat) (B1 : an3) (d1 : Nat) (B2 : an3) (d2 : Nat), cs = x.enc B0 d0 B1 d1 B2 d2 ∧ Sl tBeat S w B0 d0 x.bU ∧ Sl tLease S w B1 d1 x.bI ∧ Sl tOrder S w B2 d2 x.bH
  len := by rintro S w x cs ⟨B0, d0, B1, d1, B2, d2, rfl, h0, h1, h2⟩; rfl
  one := by rintro S w x cs ⟨B0, d0, B1, d1, B2, d2, rfl, h0, h1, h2⟩; exact ASoft.iB x B0 d0 B1 d1 B2 d2
  keep := by rintro S w w' x cs m ⟨B0, d0, B1, d1, B2, d2, rfl, h0, h1, h2⟩; exact ⟨B0, d0, B1, d1, B2, d2, rfl, h0.keep m, h1.keep m, h2.keep m⟩
  sub := by rintro S S' w x cs n ⟨B0, d0, B1, d1, B2, d2, rfl, h0, h1, h2⟩; exact ⟨B0, d0, B1, d1, B2, d2, rfl, h0.sub n, h1.sub n, h2.sub n⟩
  bd := by rintro S w x cs ⟨B0, d0, B1, d1, B2, d2, rfl, h0, h1, h2⟩; exact ⟨B0, d0, B1, d1, B2, d2, rfl, h0.bd, h1.bd, h2.bd⟩
def jC (n most : Int) : Bool := decide (1 ≤ n) && decide (n ≤ most)
def jD (r : ARules) : Bool := ((((jC r.eG 1048576 && jC r.dW 1048576) && jC r.fU 64) && jC r.All 64) && jC r.gy 8) && jC r.aK 16
def dI (bN : List AOrder) (dJ : Int) : List Int := (bN.filter fun (o : AOrder) => decide (o.aB = dJ)).map AOrder.To
def lX (now : Int) (o : AOrder) : Bool := decide (o.dQ < now)
def bD (s : ASoft) (now : Int) : ASoft := ⟨s.bU, s.bI.filter (sQ now), s.bH.filter fun (x9 : AOrder) => !(lX now x9)⟩
def vJ (bN : List AOrder) (c : AChunk) : AChunk := { c with av := c.av.filter fun (x9 : Int) => !((dI bN c.ID).contains x9) }
abbrev kF (bN : List AOrder) (l : List AChunk) (k : Nat) : List AChunk := (l.take k).map (vJ bN) ++ l.drop k
def iN (l : List AChunk) (bN : List AOrder) : List AChunk := l.map (vJ bN)
theorem Hl (bN : List AOrder) (l : List AChunk) (k : Nat) : (kF bN l k).length = l.length := by simp [kF]; omega
theorem Ho {bN : List AOrder} {l : List AChunk} {k : Nat} {x : AChunk} (hx : (kF bN l k)[k]? = some x) : l[k]? = some x := by
  have hk := aC hx
  rw [Hl] at hk
  rw [List.getElem?_append_right (by simp; omega)] at hx
  rw [List.getElem?_drop] at hx
  simp only [List.length_map, List.length_take] at hx
  rwa [show k + (k - min k l.length) = k by omega] at hx
theorem SG {bN : List AOrder} {l : List AChunk} {k : Nat} {x : AChunk} (hx0 : (kF bN l k)[k]? = some x) : (kF bN l k).set k { x with av := x.av.filter fun (x9 : Int) => !((dI bN x.ID).contains x9) } = kF bN l (k + 1) := by
  have hx := Ho hx0
  have hk := aC hx
  have hd : l.drop k = x :: l.drop (k + 1) := by rw [List.drop_eq_getElem_cons hk, (List.getElem?_eq_some_iff.1 hx).2]
  have hl : ((l.take k).map (vJ bN)).length = k := by simp; omega
  show ((l.take k).map (vJ bN) ++ l.drop k).set k (vJ bN x) = _
  unfold kF
  rw [dK hx, List.map_append, hd, List.set_append_right _ _ (by omega), hl, Nat.sub_self]
  simp
theorem Hq (bN : List AOrder) (dJ : Int) : (dI bN dJ).length ≤ bN.length := by unfold dI; rw [List.length_map]; exact List.length_filter_le _ _
theorem V4  : ∀ w, (Instr.buildSlice 29 0 (List.toArray [])).run Tryz.prog w = .ok (.slice (some ⟨w.heap.size, 0, none⟩) 0 0) (w.alloc (.cells (List.toArray []) 50)) := fun _ => by kernel_rfl
theorem vK : je Tryz.prog 50 7 56 := by
  obtain ⟨i, h1, h2, h3, h4⟩ := info_parts (show (Tryz.prog.info? 50).map (fun i => (i.zero, i.size, i.bytes)) = some (some (.agg #[.int .i64 0, .int .i64 0, .int .i64 0, .int .u32 0, .int .i64 0, .int .i64 0, .int .i64 0]), 7, 56) by kernel_rfl)
  exact ⟨i, _, h1, h2, h3, h4, Y⟩
theorem acE : aM Tryz.prog 107 := fun _ _ => by kernel_rfl
theorem ae4 : qC Tryz.prog 50 7 56 := by
  obtain ⟨i, h1, h2, h3, h4⟩ := info_parts (show (Tryz.prog.info? 50).map (fun i => (i.zero, i.size, i.bytes)) = some (some (.agg #[.int .i64 0, .int .i64 0, .int .i64 0, .int .u32 0, .int .i64 0, .int .i64 0, .int .i64 0]), 7, 56) by kernel_rfl)
  exact ⟨i, _, h1, h2, h3, h4, Y, fun v hv => List.all_eq_true.1 (show (Value.cells (.agg #[.int .i64 0, .int .i64 0, .int .i64 0, .int .u32 0, .int .i64 0, .int .i64 0, .int .i64 0])).toList.all (fun v => v.oneCell') = true from Y) v hv⟩
theorem Da : dL Tryz.prog 33 0 0 := fun _ _ => by kernel_rfl
theorem Hr : aM Tryz.prog 65 := fun _ _ => by kernel_rfl
theorem xP : dL Tryz.prog 33 4 4 := fun _ _ => by kernel_rfl
theorem xQ : dL Tryz.prog 33 1 1 := fun _ _ => by kernel_rfl
theorem Db : dL Tryz.prog 33 2 2 := fun _ _ => by kernel_rfl
theorem rQ : dL Tryz.prog 33 3 3 := fun _ _ => by kernel_rfl
theorem Dc : dL Tryz.prog 33 5 5 := fun _ _ => by kernel_rfl
theorem zM : dL Tryz.prog 50 5 5 := fun _ _ => by kernel_rfl
theorem Qx : dL Tryz.prog 50 6 6 := fun _ _ => by kernel_rfl
theorem rR : ∀ w, (zeroValue 31).run Tryz.prog w = .ok (.agg #[.slice none 0 0, .slice none 0 0, .slice none 0 0]) w := fun _ => by kernel_rfl
theorem qh : dL Tryz.prog 31 0 0 := fun _ _ => by kernel_rfl
theorem ae5 : Size Tryz.prog 27 1 := fun _ => by kernel_rfl
theorem iV : dL Tryz.prog 31 1 1 := fun _ _ => by kernel_rfl
theorem oo : kH Tryz.prog 28 := fun _ => by kernel_rfl
theorem ae6 : aM Tryz.prog 53 := fun _ _ => by kernel_rfl
theorem V5 : Size Tryz.prog 28 1 := fun _ => by kernel_rfl
theorem jc : dL Tryz.prog 31 2 2 := fun _ _ => by kernel_rfl
theorem gV : kH Tryz.prog 29 := fun _ => by kernel_rfl
theorem ZY : aM Tryz.prog 38 := fun _ _ => by kernel_rfl
theorem ae7 : aM Tryz.prog 54 := fun _ _ => by kernel_rfl
theorem ae8 : aM Tryz.prog 55 := fun _ _ => by kernel_rfl
theorem EM : Size Tryz.prog 29 1 := fun _ => by kernel_rfl
theorem rT : Size Tryz.prog 31 3 := fun _ => by kernel_rfl
theorem kW : NT Tryz.prog 31 3 := ⟨fun _ => by kernel_rfl, rT⟩
theorem yD {S0 : Nat → Prop} (w : World) {qE : an3} {qF : Nat} {s : List AOrder} (j3 : Sl tOrder S0 w qE qF s) (hn : s.length ≤ 1000000) :
    bY Tryz.prog 38 #[.slice qE s.length qF] w fun v w' => ∃ (A0 : an3) (c0 : Nat), v = .slice A0 s.length c0 ∧ Hp w S0 w' [aQ tOrder 50 A0 c0 s] := by
 refine WP.enter Tryz.func38 Y Tryz.ntmps38 Y ?_
 have H0 := Hp.init w S0
 have yH := j3.aN
 refine rg <| aR Y <| dn <| WP.seq <| rg <| mv Y <| ev (Ev.Gn Tryz.underlying29 Y Y) <| dn ?_
 refine WP.aG Y (fun hc4 => ?_) (fun hc4 => ?_)
 ·
  refine rg <| aR Y <| dn ?_
  refine WP.ret (aA.aP (aA.aD Y Y Y ?_))
  have H1 := H0.nil tOrder 50
  have hq1 : (([] : List AOrder) : List AOrder) = s := by have h1 := j3.nil (by simpa using hc4); have h2 := j3.cap; exact (List.eq_nil_of_length_eq_zero (by omega)).symm
  have H2 := (hq1 ▸ H1 : Hp w S0 w (aQ tOrder 50 none 0 s :: []))
  exact ⟨none, 0, by rw [← hq1] <;> rfl, H2⟩
 refine WP.skip (aA.norm ?_)
 refine rg ?_
 refine bs0 (τ := tOrder) (vs := []) Y (by intro _; apply V4) rfl H0 fun g1 w1 K1 => ?_
 refine mv Y ?_
 refine ap (ys := s) K1 s0 Y Y (K1.a j3).any Tryz.underlying29 vK (by simp) (by first | omega | (simp; omega) | (simp; done)) rfl fun jg jh w2 K2 => ?_
 refine aR Y <| dn ?_
 refine WP.ret (aA.aD Y Y Y ?_)
 have hq2 : ((([] : List AOrder) ++ s) : List AOrder) = s := by simp
 rw [hq2] at K2
 exact ⟨jg, jh, by rw [hq2] <;> rfl, K2⟩
theorem zO {S0 : Nat → Prop} (w : World) {qE : an3} {qF : Nat} {s : List AOrder} (j3 : Sl tOrder S0 w qE qF s) {Aw : FuncId} {Az : List Value} (Oa : aM Tryz.prog Aw) (f : AOrder → Bool) (Ob : ∀ (w' : World) (x : AOrder), Ext w w' → x ∈ s → bY Tryz.prog Aw (([.agg #[.int .i64 x.Kind, .int .i64 x.aB, .int .i64 x.ay, .int .u32 x.Sum, .int .i64 x.dw, .int .i64 x.To, .int .i64 x.dQ]] : List Value) ++ Az).toArray w' fun v w'' => v = .bool (f x) ∧ Ext w' w'') :
    bY Tryz.prog 107 #[.slice qE s.length qF, .func (.func Aw) #[] Az.toArray] w fun v w' => v = .int .i64 (idxOf f s) ∧ Hp w S0 w' [] := by
 refine WP.enter Tryz.func107 Y Tryz.ntmps107 Y ?_
 have H0 := Hp.init w S0
 have yH := j3.aN
 refine rg <| aR Y <| dn <| WP.seq <| rg <| mv Y <| ev (Ev.len Tryz.underlying29 Y) <| mv Y <| dn <| WP.block <| Lp H0 (fun l0 rk mJ lJ wJ => ∃ (k : Nat), lJ = (8, .int .i64 ((k : Nat) : Int)) :: l0 ∧ mJ = s.length - k ∧ k ≤ s.length ∧ (∀ y ∈ s.take k, f y = false) ∧ Hp w S0 wJ rk) ⟨0, Y, Y, Nat.zero_le _, by simp, H0⟩ rfl ?_
 rintro _ _ w1 ⟨k, rfl, rfl, hk, hno, K1⟩
 refine rg <| ev (Ev.lss Y Y) <| dn ?_
 refine WP.cond Y (fun jE => ?_) (fun jE => ?_)
 ·
  replace jE := of_decide_eq_true jE
  refine WP.skip (aA.norm ?_)
  refine WP.seq <| WP.block <| rg <| mv Y <| aR Y <| dn <| rg <| mv Y <| mv Y <| mv Y ?_
  obtain ⟨x1, hx1⟩ := get_some (xs := s) (i := k) (by omega)
  refine ev (Ev.index (i := k) Tryz.underlying29 gW Y Y Y (aC hx1) ((K1.a j3).some_ hx1)) <| ev (Ev.loadRow jV Y Y ((K1.a j3).dx hx1)) ?_
  refine WL.call Y Y Y Oa (Ob _ x1 K1.ext (bV hx1)) Y ?_
  rintro _ w2 ⟨rfl, e2⟩
  have K2 := K1.grow e2
  refine dn ?_
  refine WP.aG Y (fun hc16 => ?_) (fun hc16 => ?_)
  ·
   refine rg <| mv Y <| aR Y <| dn ?_
   refine WP.ret (aA.bW (aA.aP (aA.aP (aA.bW (aA.aP (aA.aD Y Y Y ?_))))))
   have hq1 : (((k : Nat) : Int) : Int) = (idxOf f s) := by exact (jU hno hx1 hc16).symm
   exact ⟨by rw [hq1] <;> rfl, K2⟩
  refine WP.skip (aA.aS (aA.norm ?_))
  refine eP <| ev (Ev.add Y Y (eX.mk (by omega) (by omega))) <| mv Y <| eT ?_
  exact aA.ag ⟨(k + 1), Y, Y, by omega, by exact gP (q := fun y => f y = false) hno hx1 hc16, K2⟩ rfl (by omega)
 replace jE := of_decide_eq_false jE
 refine WP.exit (aA.aF (aA.aF (aA.bS (aA.norm ?_))))
 refine rg <| aR Y <| dn ?_
 refine WP.ret (aA.aD Y Y Y ?_)
 have hq2 : ((-1) : Int) = (idxOf f s) := by exact (kI (jf hno (by omega))).symm
 exact ⟨by rw [← hq2] <;> rfl, K1⟩
theorem yS {b w : World} {S : Nat → Prop} {F : List jP} {A : an3} {c : Nat} {xs : List AOrder} (H0 : Hp b S w (aQ tOrder 50 A c xs :: F)) {fd : FuncId} {kd : List Value} (qd : aM Tryz.prog fd) (p : AOrder → Bool)
    (hd : ∀ (w' : World) (ys : List AOrder) (x : AOrder), ys.length = xs.length → Hp b S w' (aQ tOrder 50 A c ys :: F) → bY Tryz.prog fd (([.agg #[.int .i64 x.Kind, .int .i64 x.aB, .int .i64 x.ay, .int .u32 x.Sum, .int .i64 x.dw, .int .i64 x.To, .int .i64 x.dQ]] : List Value) ++ kd).toArray w' fun v w'' => v = .bool (p x) ∧ Ext w' w'') (hn : xs.length ≤ 1000000) :
    bY Tryz.prog 54 #[.slice A xs.length c, .func (.func fd) #[] kd.toArray] w fun v w' => v = .slice A (xs.filter fun x => !p x).length c ∧ Hp b S w' (aQ tOrder 50 A c (xs.filter fun x => !p x) :: F) := by
 refine WP.enter Tryz.func54 Y Tryz.ntmps54 Y ?_
 have ZH := (H0.o s0).aN
 have hcap0 := (H0.o s0).cap
 have hlt := vZ (p := p) xs
 have hge := vY (p := p) xs
 refine rg <| aR Y <| dn <| rg <| mv Y <| mv Y <| WL.call Y Y Y acE (zO (S0 := Any) (Az := kd) w ((H0.o s0)) qd p (fun w' x ex _ => hd w' xs x Y (H0.grow ex))) Y ?_
 rintro _ w1 ⟨rfl, e1⟩
 have K1 := H0.grow e1.ext
 refine aR Y <| dn <| WP.seq <| rg <| mv Y <| ev (Ev.eql Y Y) <| dn ?_
 refine WP.aG Y (fun iL => ?_) (fun iL => ?_)
 ·
  replace iL := of_decide_eq_true iL
  refine rg <| mv Y <| aR Y <| dn ?_
  refine WP.ret (aA.aP (aA.aD Y Y Y ?_))
  have hall := DZ (p := p) (xs := xs) (by omega)
  exact ⟨by rw [hall]; rfl, by rw [hall]; exact K1⟩
 replace iL := of_decide_eq_false iL
 refine WP.skip (aA.norm ?_)
 refine WP.seq ?_
 obtain ⟨k0, hk0, hkl⟩ : ∃ k0 : Nat, idxOf p xs = (k0 : Int) ∧ k0 < xs.length := ⟨(idxOf p xs).toNat, by omega, by omega⟩
 have U1 := D5 hk0
 refine WP.re (t := 5) Y (congrArg (Value.int .i64) hk0) <| rg <| mv Y <| ev (Ev.add Y Y (eX.mk (by omega) (by omega))) <| aR Y <| dn <| WP.block <| Lp (K1.rm s0) (fun l0 rk mJ lJ wJ => ∃ (i j : Nat) (ys : List AOrder), lJ = (0, .slice A ys.length c) :: (5, .int .i64 ((i : Nat) : Int)) :: (6, .int .i64 ((j : Nat) : Int)) :: l0 ∧ mJ = xs.length - j ∧ (ys.length = xs.length) ∧ (i < j ∧ j ≤ xs.length) ∧ (ys.take i = (xs.take j).filter fun x => !p x) ∧ (ys.drop j = xs.drop j) ∧ Hp b S wJ (aQ tOrder 50 A c ys :: rk)) ⟨k0, (k0 + 1), xs, Y, Y, by rfl, by omega, by exact U1.1, by rfl, K1⟩ rfl ?_
 rintro _ _ w2 ⟨i, j, ys, rfl, rfl, hys, hij, htk, hdr, K2⟩
 refine WP.seq <| rg <| mv Y <| mv Y <| ev (Ev.len Tryz.underlying29 Y) <| ev (Ev.lss Y Y) <| dn ?_
 refine WP.aG Y (fun hc19 => ?_) (fun hc19 => ?_)
 ·
  replace hc19 := of_decide_eq_true hc19
  refine WP.skip (aA.norm ?_)
  refine WP.seq <| WP.block <| rg <| mv Y <| mv Y ?_
  obtain ⟨x1, hx1⟩ := get_some (xs := ys) (i := j) (by omega)
  refine ev (Ev.index (i := j) Tryz.underlying29 gW Y Y Y (aC hx1) ((K2.o s0).some_ hx1)) <| ev (Ev.loadRow jV Y Y ((K2.o s0).dx hx1)) ?_
  refine al jM Y K2 fun g1 w3 K3 => ?_
  refine iW Y Y Y gW K3 s0 Y Y fun w4 K4 => ?_
  refine dn <| rg <| mv Y <| ev (Ev.bX jV Y Y (K4.x s0)) <| WL.call Y Y Y qd (hd _ _ x1 (by first | exact hys | omega) (K4.rm s0)) rfl ?_
  rintro _ w5 ⟨rfl, e5⟩
  have K5 := K4.grow e5
  refine ev (Ev.not Y) <| dn ?_
  refine WP.aG Y (fun hc29 => ?_) (fun hc29 => ?_)
  ·
   try simp only [an4, an5, an6, an7, an8, an9, aoa, aob] at hc29
   refine rg <| mv Y <| mv Y <| ev (Ev.bX jV Y Y (K5.x s0)) ?_
   obtain ⟨x2, hx2⟩ := get_some (xs := ys) (i := i) (by omega)
   refine ev (Ev.index (i := i) Tryz.underlying29 gW Y Y Y (aC hx2) ((K5.o s1).some_ hx2)) ?_
   refine se (i := i) (f := 0) (x := x2) (x' := x1) (ds := [.int .i64 x1.Kind, .int .i64 x1.aB, .int .i64 x1.ay, .int .u32 x1.Sum, .int .i64 x1.dw, .int .i64 x1.To, .int .i64 x1.dQ]) K5 s1 Y Y Y hx2 Y gW (Nat.le_of_ble_eq_true Y) Y (fun _ _ _ h => by have h' : _ = _ := h; subst h'; rfl) fun w6 K6 => ?_
   have hl1 : (ys.set i x1).length = ys.length := List.length_set ..
   refine WL.re (t := 0) (u := .slice A ys.length c) (v := .slice A ((ys.set i x1).length) c) Y (by rw [hl1]) <| WL.re (t := 17) (u := .slice A ys.length c) (v := .slice A ((ys.set i x1).length) c) rfl (by rw [hl1]) ?_
   refine WL.re (t := 22) (u := .slice A ys.length c) (v := .slice A ((ys.set i x1).length) c) Y (by rw [hl1]) <| WL.re (t := 30) (u := .slice A ys.length c) (v := .slice A ((ys.set i x1).length) c) rfl (by rw [hl1]) ?_
   have hx3 : (ys.set i x1)[i]? = some x1 := List.getElem?_set_self (aC hx2)
   refine dn <| eP <| mv Y <| ev (Ev.add Y Y (eX.mk (by omega) (by omega))) <| aR Y <| eT <| aA.aS (aA.norm ?_)
   refine eP <| mv Y <| ev (Ev.add Y Y (eX.mk (by omega) (by omega))) <| aR Y <| eT ?_
   exact aA.ag ⟨(i + 1), (j + 1), (ys.set i x1), Y, Y, by first | exact hys | (rw [List.length_set]; exact hys), by omega, by first | exact (nk hij.1 htk hdr hx1 (by simp [hc29])).1 | exact (nu htk hdr hx1 (by simp [hc29])).1, by first | exact (nk hij.1 htk hdr hx1 (by simp [hc29])).2 | exact (nu htk hdr hx1 (by simp [hc29])).2, (K6.rm s1)⟩ rfl (by omega)
  try simp only [an4, an5, an6, an7, an8, an9, aoa, aob] at hc29
  refine WP.skip (aA.aS (aA.norm ?_))
  refine eP <| mv Y <| ev (Ev.add Y Y (eX.mk (by omega) (by omega))) <| aR Y <| eT ?_
  exact aA.ag ⟨i, (j + 1), ys, Y, Y, by first | exact hys | (rw [List.length_set]; exact hys), by omega, by first | exact (nk hij.1 htk hdr hx1 (by simp [hc29])).1 | exact (nu htk hdr hx1 (by simp [hc29])).1, by first | exact (nk hij.1 htk hdr hx1 (by simp [hc29])).2 | exact (nu htk hdr hx1 (by simp [hc29])).2, (K5.rm s0)⟩ rfl (by omega)
 replace hc19 := of_decide_eq_false hc19
 refine WP.exit (aA.aF (aA.aF (aA.bS (aA.norm ?_))))
 have hcap : ys.length ≤ c := by omega
 have hil : (ys.take i).length = i := by simp only [List.length_take]; omega
 have hfin : ys.take i = xs.filter fun x => !p x := by rw [htk, List.take_of_length_le (by omega)]
 refine WP.re (t := 5) (u := .int .i64 ((i : Nat) : Int)) (v := .int .i64 (((ys.take i).length : Nat) : Int)) Y (by rw [hil]) ?_
 have H1 := K2.IL (hi := i) s0 (by omega)
 refine rg <| mv Y <| mv Y <| ev (Ev.mM (lo := (ys.take i).length) Tryz.underlying29 gW Y Y Y (by first | omega | (simp only [List.length_take]; omega)) hcap) ?_
 refine aa2 (τ := tOrder) (m := ys.length - (ys.take i).length) H1 s0 Y Tryz.underlying29 ae4 (by simp only [List.length_take]; omega) fun w7 K7 => ?_
 refine dn <| rg <| mv Y <| mv Y <| ev (Ev.Dw (hi := (ys.take i).length) Tryz.underlying29 gW Y Y Y (by simp only [List.length_take]; omega)) <| aR rfl <| dn ?_
 refine WP.ret (aA.aD Y Y Y ?_)
 exact ⟨by rw [← hfin]; rfl, by rw [← hfin]; exact K7⟩
theorem tV {S0 : Nat → Prop} (w : World) (n : Int) (most : Int) :
    bY Tryz.prog 65 #[.int .i64 n, .int .i64 most] w fun v w' => v = .bool (jC n most) ∧ Hp w S0 w' [] := by
 refine WP.enter Tryz.func65 Y Tryz.ntmps65 Y ?_
 have H0 := Hp.init w S0
 refine rg <| aR Y <| dn <| rg <| mv Y <| ev (Ev.geq Y Y) <| mv Y ?_
 refine WL.dR 4 11 ((decide (1 ≤ n)) && (decide (n ≤ most))) ?_ ?_
 ·
  cases hb7 : decide (1 ≤ n) with
  | true =>
   have abw := of_decide_eq_true hb7
   refine WL.bF Y (Ev.move Y) Y <| WL.bF Y (Ev.move Y) Y <| WL.bF Y (Ev.leq Y Y) Y <| ev (Ev.bq Y Y) ?_
   exact WL.bM Y
  | false =>
   refine WL.pass Y Y Y <| WL.pass Y Y Y <| WL.pass Y Y Y <| ev (Ev.bn Y Y) ?_
   exact WL.bM Y
 refine aR Y <| dn ?_
 refine WP.ret (aA.aD Y Y Y ?_)
 have hq1 : (((decide (1 ≤ n)) && (decide (n ≤ most))) : Bool) = (jC n most) := by rfl
 exact ⟨by rw [hq1] <;> rfl, H0⟩
theorem Qy {S0 : Nat → Prop} (w : World) (r : ARules) :
    bY Tryz.prog 23 #[.agg #[.int .i64 r.eG, .int .i64 r.fU, .int .i64 r.All, .int .i64 r.gy, .int .i64 r.dW, .int .i64 r.aK]] w fun v w' => v = .bool (jD r) ∧ Hp w S0 w' [] := by
 refine WP.enter Tryz.func23 Y Tryz.ntmps23 Y ?_
 have H0 := Hp.init w S0
 refine rg ?_
 refine bx Y Y H0 fun g1 w1 K1 => ?_
 refine aR Y <| dn <| rg <| ev (Ev.field (q := ⟨g1, 0, none⟩) Da Y Y) <| ev (Ev.aj bf Y (K1.x s0) Y) ?_
 refine C0 K1 Y Y Y Hr (tV (S0 := Any) _ r.eG 1048576) fun w2 K2 => ?_
 refine mv Y ?_
 refine WL.oI 4 10 ((jC r.eG 1048576) && (jC r.dW 1048576)) ?_ ?_
 ·
  cases hb6 : jC r.eG 1048576 with
  | true =>
   refine WL.bF Y (Ev.field (q := ⟨g1, 4, none⟩) xP Y Y) Y <| WL.bF Y (Ev.aj bf Y (K2.x s0) Y) Y <| WL.jd Y Y Y Y Hr (tV (S0 := Any) _ r.dW 1048576) Y ?_
   rintro _ w3 ⟨rfl, h3⟩
   have K3 := K2.c0 h3
   refine ev (Ev.bq Y Y) ?_
   exact WL.iY Y h3.ext
  | false =>
   refine WL.pass Y Y Y <| WL.pass Y Y Y <| WL.pass Y Y Y <| ev (Ev.bn Y Y) ?_
   exact WL.iY Y (Ext.refl _)
 intro w4 e4
 have K4 := K2.grow e4
 refine mv Y ?_
 refine WL.oI 4 15 (((jC r.eG 1048576) && (jC r.dW 1048576)) && (jC r.fU 64)) ?_ ?_
 ·
  cases AX : ((jC r.eG 1048576) && (jC r.dW 1048576)) with
  | true =>
   have tJ := AX
   try simp only [Bool.and_eq_true, Bool.and_eq_false_imp, decide_eq_true_eq, decide_eq_false_iff_not] at tJ
   refine WL.bF Y (Ev.field (q := ⟨g1, 1, none⟩) xQ Y Y) Y <| WL.bF Y (Ev.aj bf Y (K4.x s0) Y) Y <| WL.jd Y Y Y Y Hr (tV (S0 := Any) _ r.fU 64) Y ?_
   rintro _ w5 ⟨rfl, h5⟩
   have K5 := K4.c0 h5
   refine ev (Ev.bq Y Y) ?_
   exact WL.iY Y h5.ext
  | false =>
   refine WL.pass Y Y Y <| WL.pass Y Y Y <| WL.pass Y Y Y <| ev (Ev.bn Y Y) ?_
   exact WL.iY Y (Ext.refl _)
 intro w6 e6
 have K6 := K4.grow e6
 refine mv Y ?_
 refine WL.oI 4 20 ((((jC r.eG 1048576) && (jC r.dW 1048576)) && (jC r.fU 64)) && (jC r.All 64)) ?_ ?_
 ·
  cases CO : (((jC r.eG 1048576) && (jC r.dW 1048576)) && (jC r.fU 64)) with
  | true =>
   have yB := CO
   try simp only [Bool.and_eq_true, Bool.and_eq_false_imp, decide_eq_true_eq, decide_eq_false_iff_not] at yB
   refine WL.bF Y (Ev.field (q := ⟨g1, 2, none⟩) Db Y Y) Y <| WL.bF Y (Ev.aj bf Y (K6.x s0) Y) Y <| WL.jd Y Y Y Y Hr (tV (S0 := Any) _ r.All 64) Y ?_
   rintro _ w7 ⟨rfl, h7⟩
   have K7 := K6.c0 h7
   refine ev (Ev.bq Y Y) ?_
   exact WL.iY Y h7.ext
  | false =>
   refine WL.pass Y Y Y <| WL.pass Y Y Y <| WL.pass Y Y Y <| ev (Ev.bn Y Y) ?_
   exact WL.iY Y (Ext.refl _)
 intro w8 e8
 have K8 := K6.grow e8
 refine mv Y ?_
 refine WL.oI 4 25 (((((jC r.eG 1048576) && (jC r.dW 1048576)) && (jC r.fU 64)) && (jC r.All 64)) && (jC r.gy 8)) ?_ ?_
 ·
  cases F9 : ((((jC r.eG 1048576) && (jC r.dW 1048576)) && (jC r.fU 64)) && (jC r.All 64)) with
  | true =>
   have EN := F9
   try simp only [Bool.and_eq_true, Bool.and_eq_false_imp, decide_eq_true_eq, decide_eq_false_iff_not] at EN
   refine WL.bF Y (Ev.field (q := ⟨g1, 3, none⟩) rQ Y Y) Y <| WL.bF Y (Ev.aj bf Y (K8.x s0) Y) Y <| WL.jd Y Y Y Y Hr (tV (S0 := Any) _ r.gy 8) Y ?_
   rintro _ w9 ⟨rfl, h9⟩
   have K9 := K8.c0 h9
   refine ev (Ev.bq Y Y) ?_
   exact WL.iY Y h9.ext
  | false =>
   refine WL.pass Y Y Y <| WL.pass Y Y Y <| WL.pass Y Y Y <| ev (Ev.bn Y Y) ?_
   exact WL.iY Y (Ext.refl _)
 intro J8 e10
 have K10 := K8.grow e10
 refine mv Y ?_
 refine WL.oI 4 30 ((((((jC r.eG 1048576) && (jC r.dW 1048576)) && (jC r.fU 64)) && (jC r.All 64)) && (jC r.gy 8)) && (jC r.aK 16)) ?_ ?_
 ·
  cases MB : (((((jC r.eG 1048576) && (jC r.dW 1048576)) && (jC r.fU 64)) && (jC r.All 64)) && (jC r.gy 8)) with
  | true =>
   have Ht := MB
   try simp only [Bool.and_eq_true, Bool.and_eq_false_imp, decide_eq_true_eq, decide_eq_false_iff_not] at Ht
   refine WL.bF Y (Ev.field (q := ⟨g1, 5, none⟩) Dc Y Y) Y <| WL.bF Y (Ev.aj bf Y (K10.x s0) Y) Y <| WL.jd Y Y Y Y Hr (tV (S0 := Any) _ r.aK 16) Y ?_
   rintro _ Om ⟨rfl, h11⟩
   have qb := K10.c0 h11
   refine ev (Ev.bq Y Y) ?_
   exact WL.iY Y h11.ext
  | false =>
   refine WL.pass Y Y Y <| WL.pass Y Y Y <| WL.pass Y Y Y <| ev (Ev.bn Y Y) ?_
   exact WL.iY Y (Ext.refl _)
 intro Le e12
 have oH := K10.grow e12
 refine aR Y <| dn ?_
 refine WP.ret (aA.aD Y Y Y ?_)
 have hq1 : (((((((jC r.eG 1048576) && (jC r.dW 1048576)) && (jC r.fU 64)) && (jC r.All 64)) && (jC r.gy 8)) && (jC r.aK 16)) : Bool) = (jD r) := by rfl
 exact ⟨by rw [hq1] <;> rfl, (oH.rm s0)⟩
theorem MC {S0 : Nat → Prop} (w : World) {l8 : an3} {l9 : Nat} {bN : List AOrder} (kM : Sl tOrder S0 w l8 l9 bN) (dJ : Int) (hn : bN.length ≤ 100000) :
    bY Tryz.prog 59 #[.slice l8 bN.length l9, .int .i64 dJ] w fun v w' => ∃ (A0 : an3) (c0 : Nat), v = .slice A0 ((dI bN dJ).length) c0 ∧ Hp w S0 w' [aQ tInt 3 A0 c0 (dI bN dJ)] := by
 refine WP.enter Tryz.func59 Y Tryz.ntmps59 Y ?_
 have H0 := Hp.init w S0
 have EO := kM.aN
 have hq := fun k => List.length_filter_le (fun (o : AOrder) => decide (o.aB = dJ)) (bN.take k)
 simp only [List.length_take] at hq
 refine rg <| aR Y <| dn <| rg <| aR Y <| dn <| WP.seq <| rg <| mv Y <| ev (Ev.len Tryz.underlying29 Y) <| mv Y <| dn <| WP.block ?_
 have H1 := H0.nil tInt 3
 have hq1 : (([] : List Int) : List Int) = (((bN.take 0).filter (fun (o : AOrder) => decide (o.aB = dJ))).map AOrder.To) := by rfl
 refine WP.re (t := 5) Y (congrArg (fun z => Value.slice none (List.length z) 0) hq1) ?_
 have H2 := H1.nil tInt 3
 have H3 := (hq1 ▸ H2 : Hp w S0 w (aQ tInt 3 none 0 (((bN.take 0).filter (fun (o : AOrder) => decide (o.aB = dJ))).map AOrder.To) :: [aQ tInt 3 none 0 []]))
 refine Lp ((H3.rm s1).rm s0) (fun l0 rk mJ lJ wJ => ∃ (k : Nat) (A5 : an3) (c5 : Nat), lJ = (5, .slice A5 ((((bN.take k).filter (fun (o : AOrder) => decide (o.aB = dJ))).map AOrder.To).length) c5) :: (10, .int .i64 ((k : Nat) : Int)) :: l0 ∧ mJ = bN.length - k ∧ k ≤ bN.length ∧ Hp w S0 wJ (aQ tInt 3 A5 c5 (((bN.take k).filter (fun (o : AOrder) => decide (o.aB = dJ))).map AOrder.To) :: rk)) ⟨0, none, 0, Y, Y, Nat.zero_le _, (H3.rm s1)⟩ Y ?_
 rintro _ _ w1 ⟨k, A5, c5, rfl, rfl, hk, K1⟩
 refine rg <| ev (Ev.lss Y Y) <| dn ?_
 refine WP.cond Y (fun fK => ?_) (fun fK => ?_)
 ·
  replace fK := of_decide_eq_true fK
  refine WP.skip (aA.norm ?_)
  refine WP.seq <| WP.block <| rg ?_
  obtain ⟨x1, hx1⟩ := get_some (xs := bN) (i := k) (by omega)
  refine ev (Ev.index (i := k) Tryz.underlying29 gW Y Y Y (aC hx1) ((K1.a kM).some_ hx1)) <| ev (Ev.loadRow jV Y Y ((K1.a kM).dx hx1)) ?_
  refine al jM Y K1 fun g1 w2 K2 => ?_
  refine iW Y Y Y gW K2 s0 Y Y fun w3 K3 => ?_
  refine dn <| rg <| ev (Ev.field (q := ⟨g1, 1, none⟩) xK Y Y) <| ev (Ev.aj bf Y (K3.x s0) Y) <| mv Y <| ev (Ev.eql Y Y) <| dn ?_
  refine WP.aG Y (fun hc17 => ?_) (fun hc17 => ?_)
  ·
   replace hc17 := of_decide_eq_true hc17
   refine eP <| mv Y <| ev (Ev.field (q := ⟨g1, 5, none⟩) zM Y Y) <| ev (Ev.aj bf Y (K3.x s0) Y) ?_
   refine ni (τ := tInt) (x := x1.To) Y (by intro _; apply jk) rfl K3 (fun _ _ => rfl) fun g2 w4 K4 => ?_
   refine ap (ys := ([x1.To] : List Int)) K4 s2 Y Y (K4.o s0) Tryz.underlying51 uF (by have := hq k; simp only [List.length_map]; omega) (by simp) rfl fun jg jh w5 K5 => ?_
   refine aR Y <| eT ?_
   refine aA.aS (aA.norm ?_)
   refine eP <| ev (Ev.add Y Y (eX.mk (by omega) (by omega))) <| mv Y <| eT ?_
   have hq2 : (((((bN.take k).filter (fun (o : AOrder) => decide (o.aB = dJ))).map AOrder.To) ++ ([x1.To] : List Int)) : List Int) = (((bN.take (k + 1)).filter (fun (o : AOrder) => decide (o.aB = dJ))).map AOrder.To) := by rw [fQ hx1]; simp [hc17]
   refine aA.re (t := 5) Y (congrArg (fun z => Value.slice jg (List.length z) jh) hq2) ?_
   rw [hq2] at K5
   exact aA.ag ⟨(k + 1), jg, jh, Y, Y, by omega, ((K5.rm s2).rm s1)⟩ rfl (by omega)
  replace hc17 := of_decide_eq_false hc17
  refine WP.skip (aA.aS (aA.norm ?_))
  refine eP <| ev (Ev.add Y Y (eX.mk (by omega) (by omega))) <| mv Y <| eT ?_
  have hq3 : ((((bN.take k).filter (fun (o : AOrder) => decide (o.aB = dJ))).map AOrder.To) : List Int) = (((bN.take (k + 1)).filter (fun (o : AOrder) => decide (o.aB = dJ))).map AOrder.To) := by rw [fQ hx1]; simp [hc17]
  refine aA.re (t := 5) Y (congrArg (fun z => Value.slice A5 (List.length z) c5) hq3) ?_
  rw [hq3] at K3
  exact aA.ag ⟨(k + 1), A5, c5, Y, Y, by omega, (K3.rm s0)⟩ rfl (by omega)
 replace fK := of_decide_eq_false fK
 refine WP.exit (aA.aF (aA.aF (aA.bS (aA.norm ?_))))
 refine rg <| mv Y <| aR Y <| dn ?_
 refine WP.ret (aA.aD Y Y Y ?_)
 have hq4 : ((((bN.take k).filter (fun (o : AOrder) => decide (o.aB = dJ))).map AOrder.To) : List Int) = (dI bN dJ) := by rw [List.take_of_length_le (by omega)]; rfl
 rw [hq4] at K1
 exact ⟨A5, c5, by rw [hq4] <;> rfl, K1⟩
theorem SH {S0 : Nat → Prop} (w : World) (o : AOrder) {Z0 : Nat} (now : Int) (ae9 : Bx w Z0 3 [.int .i64 now]) :
    bY Tryz.prog 55 #[.agg #[.int .i64 o.Kind, .int .i64 o.aB, .int .i64 o.ay, .int .u32 o.Sum, .int .i64 o.dw, .int .i64 o.To, .int .i64 o.dQ], .pointer (some ⟨Z0, 0, none⟩)] w fun v w' => v = .bool (lX now o) ∧ Hp w S0 w' [] := by
 refine WP.enter Tryz.func55 Y Tryz.ntmps55 Y ?_
 have H0 := Hp.init w S0
 refine rg ?_
 refine bx Y Y H0 fun g1 w1 K1 => ?_
 refine aR Y <| dn <| rg <| ev (Ev.field (q := ⟨g1, 6, none⟩) Qx Y Y) <| ev (Ev.aj bf Y (K1.x s0) Y) <| ev (Ev.aj bf Y (ae9.ext K1.ext) Y) <| ev (Ev.lss Y Y) <| aR Y <| dn ?_
 refine WP.ret (aA.aD Y Y Y ?_)
 have hq1 : (decide (o.dQ < now) : Bool) = (lX now o) := by rfl
 exact ⟨by rw [hq1] <;> rfl, (K1.rm s0)⟩
theorem MF {S0 : Nat → Prop} (w : World) (s : ASoft) {qN : an3} {qO : Nat} (Bv : Sl tBeat S0 w qN qO s.bU) {uQ : an3} {uR : Nat} (Bw : Sl tLease S0 w uQ uR s.bI) {uS : an3} {uT : Nat} (vT : Sl tOrder S0 w uS uT s.bH) (now : Int) (hb : s.bU.length ≤ 100000) (hl : s.bI.length ≤ 1000) (hd : s.bH.length ≤ 100000) :
    bY Tryz.prog 18 #[.agg #[.slice qN s.bU.length qO, .slice uQ s.bI.length uR, .slice uS s.bH.length uT], .int .i64 now] w fun v w' => ∃ (B0_0 : an3) (qG : Nat) (B0_1 : an3) (EP : Nat) (ER : an3) (ES : Nat), v = .agg #[.slice B0_0 (((bD s now).bU).length) qG, .slice B0_1 (((bD s now).bI).length) EP, .slice ER (((bD s now).bH).length) ES] ∧ Hp w S0 w' [aQ tBeat 72 B0_0 qG ((bD s now).bU), aQ tLease 77 B0_1 EP ((bD s now).bI), aQ tOrder 50 ER ES ((bD s now).bH)] := by
 refine WP.enter Tryz.func18 Y Tryz.ntmps18 Y ?_
 have H0 := Hp.init w S0
 refine rg ?_
 refine bx Y Y H0 fun g1 w1 K1 => ?_
 refine bx Y Y K1 fun g2 w2 K2 => ?_
 refine al rR Y K2 fun g3 w3 K3 => ?_
 refine dn <| rg <| ev (Ev.field (q := ⟨g1, 0, none⟩) qh Y Y) <| ev (Ev.aj zK Y (K3.x s2) Y) <| WL.call Y Y Y VI (uO _ (K3.a Bv).any (by omega)) Y ?_
 rintro _ w4 ⟨sG, sH, rfl, h4⟩
 have K4 := K3.f1 h4
 have GX := (K4.o s0).aN
 refine ev (Ev.field (q := ⟨g1, 0, none⟩) qh Y Y) ?_
 refine BK Y Y Y ae5 K4 s3 Y fun w5 K5 => ?_
 refine dn <| rg <| ev (Ev.field (q := ⟨g1, 1, none⟩) iV Y Y) <| ev (Ev.aj oo Y (K5.x s0) Y) <| ev (Ev.aj bf Y (K5.x s3) Y) <| WL.call Y Y Y ae6 (Lx _ (K5.a Bw).any now (by omega)) Y ?_
 rintro _ w6 ⟨vO, vQ, Y3, Y4, rfl, h6⟩
 have K6 := K5.f2 h6
 have UJ := (K6.o s0).aN
 have afa := (K6.o s1).aN
 refine mv Y <| xt Y Y <| xt Y Y <| ev (Ev.field (q := ⟨g1, 1, none⟩) iV Y Y) ?_
 refine BK Y Y Y V5 K6 s2 Y fun w7 K7 => ?_
 refine dn <| rg <| ev (Ev.field (q := ⟨g1, 2, none⟩) jc Y Y) <| ev (Ev.aj gV Y (K7.x s0) Y) <| WL.call Y Y Y ZY (yD _ (K7.a vT).any (by omega)) Y ?_
 rintro _ w8 ⟨yg, yj, rfl, h8⟩
 have K8 := K7.f1 h8
 have Qh := (K8.o s0).aN
 refine ev (Ev.func Y) <| WL.call Y Y Y ae7 (yS (kd := [.pointer (some ⟨g2, 0, none⟩)]) (K8.sel s0) ae8 (fun x9 => lX now x9) (fun w9 ys x9 YK K9 => (SH (S0 := Any) w9 x9 now (K9.x s6)).mono (by rintro _ w8 ⟨rfl, K8⟩; exact ⟨rfl, K8.ext⟩)) (by omega)) rfl ?_
 rintro _ w9 ⟨rfl, K9⟩
 refine ev (Ev.field (q := ⟨g1, 2, none⟩) jc Y Y) ?_
 refine BK Y Y Y EM K9 s1 Y fun J8 K10 => ?_
 refine dn <| rg <| ev (Ev.bX kW Y Y (K10.x s0)) ?_
 refine iW Y Y Y rT K10 s5 Y Y fun Om qb => ?_
 refine dn ?_
 refine WP.ret (aA.oG Y ⟨_, _, Y, ⟨_, Y, eH (cs := [.slice sG s.bU.length sH, .slice vO ((s.bI.filter (sQ now)).length) vQ, .slice yg ((s.bH.filter fun x9 => !(lX now x9)).length) yj]) kW Y (qb.x s0)⟩, Y⟩ ?_)
 have hq1 : ((⟨s.bU, s.bI.filter (sQ now), (s.bH.filter fun x9 => !(lX now x9))⟩ : ASoft) : ASoft) = (bD s now) := by rfl
 have hq2 : (s.bU : List ABeat) = ((bD s now).bU) := by rw [← hq1]
 have hq3 : (s.bI.filter (sQ now) : List ALease) = ((bD s now).bI) := by rw [← hq1]
 have hq4 : ((s.bH.filter fun x9 => !(lX now x9)) : List AOrder) = ((bD s now).bH) := by rw [← hq1]
 exact ⟨sG, sH, vO, vQ, yg, yj, by rw [hq2, hq3, hq4] <;> rfl, by rw [← hq2, ← hq3, ← hq4]; exact (((((((qb.rm s6).rm s4).rm s1).rm s0).sel s0).sel s1).sel s2)⟩
end Go.Proofs.YtjcklpooaaaglaaGreat
set_option maxRecDepth 4000
set_option linter.all false
namespace Go.Proofs.YtjcklpooaaaglaaGreat
open Go.RowKit
theorem Z4 : aM Tryz.prog 59 := fun _ _ => by kernel_rfl
theorem afb : aM Tryz.prog 62 := fun _ _ => by kernel_rfl
theorem SI {S0 : Nat → Prop} (w : World) (id : Int) {V6 : Nat} {V7 : an3} {V8 : Nat} {went : List Int} (acF : Bx w V6 51 [.slice V7 went.length V8]) (V9 : Sl tInt S0 w V7 V8 went) :
    bY Tryz.prog 62 #[.int .i64 id, .pointer (some ⟨V6, 0, none⟩)] w fun v w' => v = .bool (went.contains id) ∧ Hp w S0 w' [] := by
 refine WP.enter Tryz.func62 Y Tryz.ntmps62 Y ?_
 have H0 := Hp.init w S0
 have ahf := V9.aN
 refine rg <| aR Y <| dn <| rg <| ev (Ev.aj gK Y (acF.ext H0.ext) Y) <| mv Y ?_
 refine C0 H0 Y Y Y yx (iq _ (H0.a V9).any id) fun w1 K1 => ?_
 refine aR Y <| dn ?_
 refine WP.ret (aA.aD Y Y Y ?_)
 exact ⟨Y, K1⟩
theorem MG {S0 : Nat → Prop} (w : World) {d9 : an3} {eu : Nat} {l : List AChunk} (dN : Sl tChunk S0 w d9 eu l) {l8 : an3} {l9 : Nat} {bN : List AOrder} (kM : Sl tOrder Any w l8 l9 bN) (hn : l.length ≤ 100000) (hd : bN.length ≤ 100000) (hh : ∀ x ∈ l, x.av.length ≤ 100000) :
    bY Tryz.prog 21 #[.slice d9 l.length eu, .slice l8 bN.length l9] w fun v w' => ∃ (A0 : an3) (c0 : Nat), v = .slice A0 ((iN l bN).length) c0 ∧ Hp w S0 w' [aQ tChunk 53 A0 c0 (iN l bN)] := by
 refine WP.enter Tryz.func21 Y Tryz.ntmps21 Y ?_
 have H0 := Hp.init w S0
 have iJ := dN.aN
 have EO := kM.aN
 refine rg <| aR Y <| dn <| rg <| mv Y <| WL.call Y Y Y ZA (yA _ (H0.a dN) (by omega)) Y ?_
 rintro _ w1 ⟨mQ, mR, rfl, h1⟩
 have K1 := H0.c1 h1
 refine aR Y <| dn <| WP.seq <| rg <| mv Y <| ev (Ev.len Tryz.underlying23 Y) <| mv Y <| dn <| WP.block ?_
 have hq1 : (l : List AChunk) = (kF bN l 0) := by simp [kF]
 refine WP.re (t := 5) Y (congrArg (fun z => Value.slice mQ (List.length z) mR) hq1) <| WP.re (t := 11) Y (congrArg (fun z => Value.slice mQ (List.length z) mR) hq1) ?_
 rw [hq1] at K1
 refine Lp (K1.rm s0) (fun l0 rk mJ lJ wJ => ∃ (k : Nat) (A5 : an3) (c5 : Nat), lJ = (5, .slice A5 ((kF bN l k).length) c5) :: (11, .slice A5 ((kF bN l k).length) c5) :: (13, .int .i64 ((k : Nat) : Int)) :: l0 ∧ mJ = l.length - k ∧ k ≤ l.length ∧ Hp w S0 wJ (aQ tChunk 53 A5 c5 (kF bN l k) :: rk)) ⟨0, mQ, mR, Y, Y, Nat.zero_le _, K1⟩ Y ?_
 rintro _ _ w2 ⟨k, A5, c5, rfl, rfl, hk, K2⟩
 have hml := Hl bN l k
 refine rg <| ev (Ev.lss Y Y) <| dn ?_
 refine WP.cond Y (fun fE => ?_) (fun fE => ?_)
 ·
  replace fE := of_decide_eq_true fE
  refine WP.skip (aA.norm ?_)
  refine WP.seq <| WP.block <| rg <| mv Y ?_
  obtain ⟨x1, hx1⟩ := get_some (xs := (kF bN l k)) (i := k) (by omega)
  refine ev (Ev.index (i := k) Tryz.underlying23 gu Y Y Y (aC hx1) ((K2.o s0).some_ hx1)) ?_
  obtain ⟨B1, d1, kL, hi1⟩ := AChunk.op (K2.oi s0 hx1)
  have H1 := K2.push hi1
  refine ev (Ev.loadRow (cs := [.int .i64 x1.ID, .int .i64 x1.ay, .int .u32 x1.Sum, .slice B1 x1.av.length d1]) gQ Y Y (oJ kL)) ?_
  refine al iI Y H1 fun g1 w3 K3 => ?_
  refine aR Y ?_
  refine iW Y Y Y gu K3 s0 Y Y fun w4 K4 => ?_
  refine dn <| rg <| mv Y <| ev (Ev.field (q := ⟨g1, 0, none⟩) gI Y Y) <| ev (Ev.aj bf Y (K4.x s0) Y) <| WL.call Y Y Y Z4 (MC _ (kM.ext K4.ext) x1.ID (by omega)) Y ?_
  rintro _ w5 ⟨zu, zw, rfl, h5⟩
  have K5 := K4.f1 h5
  have U2 := (K5.o s0).aN
  refine al Qu Y K5 fun g2 w6 K6 => ?_
  refine BK Y Y Y zm K6 s0 Y fun w7 K7 => ?_
  refine dn ?_
  have hhx := hh _ (bV (Ho hx1))
  refine eP <| mv Y <| mv Y <| ev (Ev.field (q := ⟨g1, 3, none⟩) fT Y Y) <| ev (Ev.aj gK Y (K7.x s2) Y) <| WL.call Y Y Y KN (o7 _ (K7.s s3).any (by omega)) Y ?_
  rintro _ w8 ⟨yg, yj, rfl, h8⟩
  have K8 := K7.f1 h8
  have Qh := (K8.o s0).aN
  refine ev (Ev.func Y) <| WL.call Y Y Y GU (jG (kd := [.pointer (some ⟨g2, 0, none⟩)]) (K8.sel s0) afb (fun x9 => (dI bN x1.ID).contains x9) (fun w9 ys x9 YK K9 => (SI (S0 := Any) w9 x9 (K9.x s1) (K9.o s2)).mono (by rintro _ w8 ⟨rfl, K8⟩; exact ⟨rfl, K8.ext⟩)) (by omega)) rfl ?_
  rintro _ w9 ⟨rfl, K9⟩
  refine ev (Ev.index (i := k) Tryz.underlying23 gu Y Y Y (aC hx1) ((K9.o s5).some_ hx1)) <| ev (Ev.field fT Y (bJ _ _ _)) ?_
  have H2 := K9.fz s0
  refine se (i := k) (f := 3) (x := x1) (x' := { x1 with av := (x1.av.filter fun x9 => !((dI bN x1.ID).contains x9)) }) (ds := [.slice yg ((x1.av.filter fun x9 => !((dI bN x1.ID).contains x9)).length) yj]) H2 s5 Y Y Y hx1 Y zm (Nat.le_of_ble_eq_true Y) Y (fun _ _ hk h => by obtain ⟨_, _, rfl, _⟩ := h; exact ⟨_, _, rfl, hk (H2.s s0)⟩) fun J8 K10 => ?_
  have hl1 : ((kF bN l k).set k ({ x1 with av := (x1.av.filter fun x9 => !((dI bN x1.ID).contains x9)) })).length = (kF bN l k).length := List.length_set ..
  refine WL.re (t := 5) (u := .slice A5 ((kF bN l k).length) c5) (v := .slice A5 (((kF bN l k).set k ({ x1 with av := (x1.av.filter fun x9 => !((dI bN x1.ID).contains x9)) })).length) c5) Y (by rw [hl1]) ?_
  refine WL.re (t := 11) (u := .slice A5 ((kF bN l k).length) c5) (v := .slice A5 (((kF bN l k).set k ({ x1 with av := (x1.av.filter fun x9 => !((dI bN x1.ID).contains x9)) })).length) c5) Y (by rw [hl1]) ?_
  refine WL.re (t := 22) (u := .slice A5 ((kF bN l k).length) c5) (v := .slice A5 (((kF bN l k).set k ({ x1 with av := (x1.av.filter fun x9 => !((dI bN x1.ID).contains x9)) })).length) c5) Y (by rw [hl1]) ?_
  have hx2 : ((kF bN l k).set k ({ x1 with av := (x1.av.filter fun x9 => !((dI bN x1.ID).contains x9)) }))[k]? = some ({ x1 with av := (x1.av.filter fun x9 => !((dI bN x1.ID).contains x9)) }) := List.getElem?_set_self (aC hx1)
  refine eT ?_
  refine aA.aS (aA.norm ?_)
  refine eP <| ev (Ev.add Y Y (eX.mk (by omega) (by omega))) <| mv Y <| eT ?_
  have hq2 : (((kF bN l k).set k ({ x1 with av := (x1.av.filter fun x9 => !((dI bN x1.ID).contains x9)) })) : List AChunk) = (kF bN l (k + 1)) := by exact SG hx1
  refine aA.re (t := 5) Y (congrArg (fun z => Value.slice A5 (List.length z) c5) hq2) <| aA.re (t := 11) Y (congrArg (fun z => Value.slice A5 (List.length z) c5) hq2) ?_
  rw [hq2] at K10
  exact aA.ag ⟨(k + 1), A5, c5, Y, Y, by omega, (((((K10.rm s5).rm s4).rm s3).rm s2).rm s1)⟩ rfl (by omega)
 replace fE := of_decide_eq_false fE
 refine WP.exit (aA.aF (aA.aF (aA.bS (aA.norm ?_))))
 refine rg <| mv Y <| aR Y <| dn ?_
 refine WP.ret (aA.aD Y Y Y ?_)
 have hq3 : ((kF bN l k) : List AChunk) = (iN l bN) := by have hk' : k = l.length := (by omega); rw [hk']; unfold kF iN; rw [List.take_length, List.drop_length, List.append_nil]
 rw [hq3] at K2
 exact ⟨A5, c5, by rw [hq3] <;> rfl, K2⟩
end Go.Proofs.YtjcklpooaaaglaaGreat
set_option maxRecDepth 4000
set_option linter.all false
namespace Go.Proofs.YtjcklpooaaaglaaGreat
open Go.RowKit
structure ASession where
  Client : Int
  Seq : Int
  Answer : Int
  deriving DecidableEq
def ASession.enc (x : ASession) : List Value := [.int .i64 x.Client, .int .i64 x.Seq, .int .i64 x.Answer]
theorem ASession.iB (x : ASession) : ∀ u ∈ x.enc, u.oneCell' = true := by
  intro u hu
  simp only [ASession.enc, List.mem_cons, List.not_mem_nil, or_false] at hu
  rcases hu with rfl | rfl | rfl <;> rfl
def ASession.wf (x : ASession) : Prop := InI64 x.Client ∧ InI64 x.Seq ∧ InI64 x.Answer
def tSession : Ty ASession := Ty.flat 3 ASession.enc (by decide) (fun _ => rfl) ASession.iB
instance : Flat tSession := ⟨fun h => h⟩
structure iT where
  Client : Int
  Seq : Int
  Kind : Int
  A : Int
  B : Int
  C : Int
  deriving DecidableEq
def iT.enc (x : iT) : List Value := [.int .i64 x.Client, .int .i64 x.Seq, .int .i64 x.Kind, .int .i64 x.A, .int .i64 x.B, .int .i64 x.C]
theorem iT.iB (x : iT) : ∀ u ∈ x.enc, u.oneCell' = true := by
  intro u hu
  simp only [iT.enc, List.mem_cons, List.not_mem_nil, or_false] at hu
  rcases hu with rfl | rfl | rfl | rfl | rfl | rfl <;> rfl
def nI : Ty iT := Ty.flat 6 iT.enc (by decide) (fun _ => rfl) iT.iB
instance : Flat nI := ⟨fun h => h⟩
structure AMeta where
  bA : List ANode
  bC : List AChunk
  dS : List ASession
  deriving DecidableEq
def AMeta.enc (x : AMeta) (B0 : an3) (d0 : Nat) (B1 : an3) (d1 : Nat) (B2 : an3) (d2 : Nat) : List Value := [.slice B0 x.bA.length d0, .slice B1 x.bC.length d1, .slice B2 x.dS.length d2]
theorem AMeta.iB (x : AMeta) (B0 : an3) (d0 : Nat) (B1 : an3) (d1 : Nat) (B2 : an3) (d2 : Nat) : ∀ u ∈ x.enc B0 d0 B1 d1 B2 d2, u.oneCell' = true := by
  intro u hu
  simp only [AMeta.enc, List.mem_cons, List.not_mem_nil, or_false] at hu
  rcases hu with rfl | rfl | rfl <;> rfl
def AMeta.wf (x : AMeta) : Prop := (∀ y ∈ x.bA, ANode.wf y) ∧ (∀ y ∈ x.bC, AChunk.wf y) ∧ (∀ y ∈ x.dS, ASession.wf y)
def tMeta : Ty AMeta where
  k := 3
  pos := by decide
  R := fun S w x cs => ∃ (B0 : an3) (d0 : Nat) (B1 : an3) (d1 : Nat) (B2 : an3) (d2 : Nat), cs = x.enc B0 d0 B1 d1 B2 d2 ∧ Sl tNode S w B0 d0 x.bA ∧ Sl tChunk S w B1 d1 x.bC ∧ Sl tSession S w B2 d2 x.dS
  len := by rintro S w x cs ⟨B0, d0, B1, d1, B2, d2, rfl, h0, h1, h2⟩; rfl
  one := by rintro S w x cs ⟨B0, d0, B1, d1, B2, d2, rfl, h0, h1, h2⟩; exact AMeta.iB x B0 d0 B1 d1 B2 d2
  keep := by rintro S w w' x cs m ⟨B0, d0, B1, d1, B2, d2, rfl, h0, h1, h2⟩; exact ⟨B0, d0, B1, d1, B2, d2, rfl, h0.keep m, h1.keep m, h2.keep m⟩
  sub := by rintro S S' w x cs n ⟨B0, d0, B1, d1, B2, d2, rfl, h0, h1, h2⟩; exact ⟨B0, d0, B1, d1, B2, d2, rfl, h0.sub n, h1.sub n, h2.sub n⟩
  bd := by rintro S w x cs ⟨B0, d0, B1, d1, B2, d2, rfl, h0, h1, h2⟩; exact ⟨B0, d0, B1, d1, B2, d2, rfl, h0.bd, h1.bd, h2.bd⟩
def dO (ls : List ALease) (dJ : Int) : List Int := (ls.filter fun (x : ALease) => decide (x.aB = dJ)).map ALease.To
theorem wS (ls : List ALease) (dJ : Int) : (dO ls dJ).length ≤ ls.length := by unfold dO; rw [List.length_map]; exact List.length_filter_le _ _
def ET (l : List bP) (x : ALease) : List bP := ⟨x.To, fJ l x.To + 1⟩ :: l
def aO (cs : List AChunk) (ns : List ANode) (ls : List ALease) : List bP := ls.foldl ET (iU cs ns)
theorem BZ {cs : List AChunk} {ns : List ANode} {ls : List ALease} {k : Nat} {x : ALease} (hx : ls[k]? = some x) : aO cs ns (ls.take (k + 1)) = ET (aO cs ns (ls.take k)) x := by
  unfold aO; rw [dK hx, List.foldl_append]; rfl
theorem Jk {P : Int → Prop} {l : List bP} (h0 : P 0) (h : ∀ x ∈ l, P x.N) (id : Int) : P (fJ l id) := by
  unfold fJ; split
  · rename_i x hx; exact h x (List.mem_of_find?_eq_some hx)
  · exact h0
theorem xR (cs : List AChunk) (ns : List ANode) (ls : List ALease) : (∀ x ∈ aO cs ns ls, 0 ≤ x.N ∧ x.N ≤ cs.length + ls.length) ∧ (aO cs ns ls).length ≤ ns.length + ls.length := by
  have key : ∀ (ls : List ALease) (l : List bP) (m : Nat), (∀ x ∈ l, 0 ≤ x.N ∧ x.N ≤ (m : Int)) → (∀ x ∈ ls.foldl ET l, 0 ≤ x.N ∧ x.N ≤ (m : Int) + ls.length) ∧ (ls.foldl ET l).length = l.length + ls.length := by
    intro ls
    induction ls with
    | nil => intro l m h; exact ⟨fun x hx => by have := h x hx; simp; omega, by simp⟩
    | cons y ls ih =>
      intro l m h
      have hp : 0 ≤ fJ l y.To ∧ fJ l y.To ≤ (m : Int) := Jk (P := fun z => 0 ≤ z ∧ z ≤ (m : Int)) ⟨Int.le_refl _, by omega⟩ h y.To
      have h1 := ih (ET l y) (m + 1) (fun x hx => by
        rcases List.mem_cons.1 hx with rfl | hx
        · simp only; omega
        · have := h x hx; omega)
      refine ⟨fun x hx => ?_, ?_⟩
      · have := h1.1 x hx
        simp only [List.length_cons]; omega
      · rw [List.foldl_cons, h1.2]; simp only [ET, List.length_cons]; omega
  have h0 : (∀ x ∈ iU cs ns, 0 ≤ x.N ∧ x.N ≤ (cs.length : Int)) ∧ (iU cs ns).length ≤ ns.length := by
    unfold iU; split
    · refine ⟨fun x hx => ?_, by simp⟩
      obtain ⟨n, _, rfl⟩ := List.mem_map.1 hx
      have := KY cs n.ID
      simp only; omega
    · simp
  have h1 := key ls (iU cs ns) cs.length h0.1
  exact ⟨h1.1, by show (ls.foldl ET (iU cs ns)).length ≤ _; rw [h1.2]; omega⟩
theorem acG : qC Tryz.prog 173 2 16 := by
  obtain ⟨i, h1, h2, h3, h4⟩ := info_parts (show (Tryz.prog.info? 173).map (fun i => (i.zero, i.size, i.bytes)) = some (some (.agg #[.int .i64 0, .int .i64 0]), 2, 16) by kernel_rfl)
  exact ⟨i, _, h1, h2, h3, h4, Y, fun v hv => List.all_eq_true.1 (show (Value.cells (.agg #[.int .i64 0, .int .i64 0])).toList.all (fun v => v.oneCell') = true from Y) v hv⟩
theorem lC : dL Tryz.prog 81 0 0 := fun _ _ => by kernel_rfl
theorem uU : dL Tryz.prog 81 1 3 := fun _ _ => by kernel_rfl
theorem mg : dL Tryz.prog 26 1 1 := fun _ _ => by kernel_rfl
theorem oq : dL Tryz.prog 26 0 0 := fun _ _ => by kernel_rfl
theorem acH : aM Tryz.prog 135 := fun _ _ => by kernel_rfl
theorem EU {b w : World} (eb : Ext b w) {A : an3} {c : Nat} {us : List (Cells 2)} {gv : Nat} {u : Cells 2} {i : Nat} (j3 : Own (oF 2 (by decide)) 173 b.heap.size No w A c us) (h_v : Bx w gv 173 u.1) (hgv : blk A ≠ some gv) (hi : i ≤ us.length) (hn : us.length ≤ 900000) :
    bY Tryz.prog 135 #[.slice A us.length c, .int .i64 (i : Int), .slice (some ⟨gv, 0, none⟩) 1 1] w fun v w' => ∃ A' c', v = .slice A' (us.take i ++ [u] ++ us.drop i).length c' ∧ Own (oF 2 (by decide)) 173 b.heap.size No w' A' c' (us.take i ++ [u] ++ us.drop i) ∧ yw w w' (blk A) ∧ (blk A' = blk A ∨ ∃ g, blk A' = some g ∧ w.heap.size ≤ g) := by
  refine WP.enter Tryz.func135 Y Tryz.ntmps135 Y ?_
  have hcap := (j3.sl (S' := Any) (fun _ _ => trivial) (fun _ _ => trivial)).cap
  refine WP.region ?_
  refine WL.ev (Ev.assign Y) Y ?_
  refine WL.done ?_
  refine WP.region ?_
  refine WL.ev (Ev.move Y) Y ?_
  refine WL.ev (Ev.move Y) Y ?_
  refine WL.ev (Ev.mM (lo := i) Tryz.underlying130 j5 Y Y Y (by omega) (by omega)) Y ?_
  refine WL.done ?_
  refine WP.region ?_
  refine WL.ev (Ev.move Y) Y ?_
  refine WL.ev (Ev.len Tryz.underlying130 Y) Y ?_
  refine WL.ev (Ev.assign Y) Y ?_
  refine WL.done ?_
  refine WP.seq ?_
  refine WP.region ?_
  refine WL.ev (Ev.move Y) Y ?_
  refine WL.ev (Ev.eql Y Y) Y ?_
  refine WL.done ?_
  refine WP.aG Y (fun hc16 => ?_) (fun hc16 => ?_)
  · replace hc16 := of_decide_eq_true hc16
    omega
  replace hc16 := of_decide_eq_false hc16
  refine WP.skip (aA.norm ?_)
  refine WP.region ?_
  refine WL.ev (Ev.move Y) Y ?_
  refine WL.ev (Ev.len Tryz.underlying130 Y) Y ?_
  refine WL.ev (Ev.assign Y) Y ?_
  refine WL.done ?_
  refine WP.seq ?_
  refine WP.region ?_
  refine WL.ev (Ev.move Y) Y ?_
  refine WL.ev (Ev.move Y) Y ?_
  refine WL.ev (Ev.eql Y Y) Y ?_
  refine WL.done ?_
  refine WP.aG Y (fun hc22 => ?_) (fun hc22 => ?_)
  · replace hc22 := of_decide_eq_true hc22
    refine WP.region ?_
    refine WL.ev (Ev.move Y) Y ?_
    refine WL.ev (Ev.move Y) Y ?_
    have hv1 : Sl (oF 2 (by decide)) Any w (some ⟨gv, 0, none⟩) 1 [u] := h_v.NV (S := Any) (S2 := No) rfl trivial (fun _ h => h.elim)
    refine WL.app (xs := us) (ys := [u]) Y Y j3 hv1 Tryz.underlying130 I5 (fun _ _ _ h => h) (fun _ _ h => h) (by omega) (by simp) Y eb.size Y fun A1 c1 w1 o1 g1 at1 => ?_
    refine WL.ev (Ev.assign Y) Y ?_
    refine WL.done ?_
    refine WP.ret (aA.aP (aA.aD (v := .slice A1 ((us ++ [u]).length) c1) Y Y Y ?_))
    have h_i : i = us.length := by omega
    exact ⟨A1, c1, by rw [P6 us u h_i], by rw [P6 us u h_i]; exact o1, g1, at1.imp id (fun h => ⟨_, h, Nat.le_refl _⟩)⟩
  replace hc22 := of_decide_eq_false hc22
  refine WP.skip (aA.norm ?_)
  refine WP.seq ?_
  refine WP.region ?_
  refine WL.ev (Ev.move Y) Y ?_
  refine WL.ev (Ev.move Y) Y ?_
  refine WL.ev (Ev.add Y Y (eX.mk (by omega) (by omega))) Y ?_
  refine WL.ev (Ev.move Y) Y ?_
  refine WL.ev (Ev.cap Tryz.underlying130 Y) Y ?_
  refine WL.ev (Ev.gtr Y Y) Y ?_
  refine WL.done ?_
  refine WP.aG Y (fun hc31 => ?_) (fun hc31 => ?_)
  · replace hc31 := of_decide_eq_true hc31
    refine WP.region ?_
    refine WL.ev (Ev.move Y) Y ?_
    refine WL.ev (Ev.move Y) Y ?_
    refine WL.ev (Ev.Kw (hi := i) (xs := us) Tryz.underlying130 j5 Y Y Y (by omega) (j3.fr (a := b) (Nat.le_refl _)).cap) Y ?_
    refine WL.ev (Ev.move Y) Y ?_
    refine WL.ev (Ev.move Y) Y ?_
    refine WL.ev (Ev.add Y Y (eX.mk (by omega) (by omega))) Y ?_
    refine WL.ev (Ev.move Y) Y ?_
    refine WL.ev (Ev.sub Y Y (eX.mk (by omega) (by omega))) Y ?_
    refine WL.re (t := 39) (u := .int .i64 (((us.length + 1 : Nat) : Int) - ((i : Nat) : Int))) (v := .int .i64 ((us.length + 1 - i : Nat) : Int)) Y (congrArg (Value.int .i64) (by omega)) ?_
    refine WL.NZ (m := us.length + 1 - i) (us := us.take i) (kp := by decide) rfl rfl Tryz.underlying130 Tryz.underlying3 acG ((j3.sl (S' := Any) (fun _ _ => trivial) (fun _ _ => trivial)).Kw (hi := i) (by omega)) (by simp only [List.length_take]; omega) (by omega) (by simp only [List.length_take]; omega) (by omega) rfl rfl fun g1 c1 w1 z1 o1 e1 => ?_
    have hl1 : (us.take i ++ List.replicate (us.length + 1 - i) z1).length = us.length + 1 := by simp only [List.length_append, List.length_take, List.length_replicate]; omega
    have hcp1 := (o1.sl (S' := Any) (fun _ _ => trivial) (fun _ _ => trivial)).cap
    have hz1 : w.heap.size ≤ g1 := (o1.IC _ rfl).1
    refine WL.re (t := 40) (u := .slice (some ⟨g1, 0, none⟩) ((us.take i).length + (us.length + 1 - i)) c1) (v := .slice (some ⟨g1, 0, none⟩) (us.take i ++ List.replicate (us.length + 1 - i) z1).length c1) Y (by simp only [List.length_append, List.length_replicate]) ?_
    refine WL.ev (Ev.assign Y) Y ?_
    refine WL.done ?_
    refine WP.region ?_
    refine WL.ev (Ev.move Y) Y ?_
    refine WL.ev (Ev.move Y) Y ?_
    refine WL.ev (Ev.mM (lo := i) Tryz.underlying130 j5 Y Y Y (by omega) (by omega)) Y ?_
    refine WL.ev (Ev.move Y) Y ?_
    have hv1 : Sl (oF 2 (by decide)) Any w1 (some ⟨gv, 0, none⟩) 1 [u] := (h_v.ext e1).NV (S := Any) (S2 := No) rfl trivial (fun _ h => h.elim)
    refine WL.P5 (lo := i) (us := (us.take i ++ List.replicate (us.length + 1 - i) z1)) (vs := [u]) (kp := by decide) rfl rfl Tryz.underlying130 j5 o1 hv1 (by omega) rfl fun w2 v2 o2 g2 z2 => ?_
    have hl2 : (over (us.take i ++ List.replicate (us.length + 1 - i) z1) i [u]).length = us.length + 1 := by rw [wz (by omega), hl1]
    have hcp2 := (o2.sl (S' := Any) (fun _ _ => trivial) (fun _ _ => trivial)).cap
    have afc := (j3.ext e1).grown g2 (fun g hA hB => by have h1 := (j3.IC g hA).2; have h2 : g1 = g := (by simpa [blk] using hB); omega) (fun _ _ h => h)
    refine WL.re (t := 9) (u := .slice (some ⟨g1, 0, none⟩) (us.take i ++ List.replicate (us.length + 1 - i) z1).length c1) (v := .slice (some ⟨g1, 0, none⟩) (over (us.take i ++ List.replicate (us.length + 1 - i) z1) i [u]).length c1) Y (by rw [hl1, hl2]) ?_
    refine WL.done ?_
    refine WP.held (fun _ => True) (fun lJ w' => lJ = [(9, .slice (some ⟨g1, 0, none⟩) ((over (us.take i ++ List.replicate (us.length + 1 - i) z1) i [u]).length) c1)] ∧ Own (oF 2 (by decide)) 173 w.heap.size No w' (some ⟨g1, 0, none⟩) c1 (over (over (us.take i ++ List.replicate (us.length + 1 - i) z1) i [u]) (i + 1) (us.drop i)) ∧ yw w2 w' (some g1)) (by kernel_rfl) ?_ ?_
    · refine WH.pI (fuel := 8) 0 Y (by kernel_rfl) (by kernel_rfl) (by kernel_rfl) (fun _ => (Ev.move Y)) Y ?_
      refine WH.pI (fuel := 7) 1 Y (by kernel_rfl) (by kernel_rfl) (by kernel_rfl) (fun _ => (Ev.move Y)) Y ?_
      refine WH.pI (fuel := 6) 2 Y (by kernel_rfl) (by kernel_rfl) (by kernel_rfl) (fun _ => (Ev.move Y)) Y ?_
      refine WH.pI (fuel := 5) 3 Y (by kernel_rfl) (by kernel_rfl) (by kernel_rfl) (fun _ => (Ev.add Y Y (eX.mk (by omega) (by omega)))) Y ?_
      refine WH.pI (fuel := 4) 4 Y (by kernel_rfl) (by kernel_rfl) (by kernel_rfl) (fun _ => (Ev.mM (lo := i + 1) Tryz.underlying130 j5 Y Y Y (by omega) (by omega))) Y ?_
      refine WH.pI (fuel := 3) 5 Y (by kernel_rfl) (by kernel_rfl) (by kernel_rfl) (fun _ => (Ev.move Y)) Y ?_
      refine WH.pI (fuel := 2) 6 Y (by kernel_rfl) (by kernel_rfl) (by kernel_rfl) (fun _ => (Ev.move Y)) Y ?_
      refine WH.pI (fuel := 1) 7 Y (by kernel_rfl) (by kernel_rfl) (by kernel_rfl) (fun _ => (Ev.cutFrom (lo := i) (xs := us) Tryz.underlying130 j5 Y Y Y (by omega) (afc.fr (a := b) (Nat.le_refl _)).cap)) Y ?_
      refine WH.all (fuel := 0) (rs := [8]) (by kernel_rfl) (by decide) ?_
      simp only [List.forall_mem_cons, List.not_mem_nil, false_implies, implies_true, and_true]
      refine ⟨_, Y, ?_⟩
      refine WL.P5 (lo := i + 1) (us := (over (us.take i ++ List.replicate (us.length + 1 - i) z1) i [u])) (vs := us.drop i) (kp := by decide) rfl rfl Tryz.underlying130 j5 (o2.ext (Ext.refl w2).drew) (((afc.sl (S' := Any) (fun _ _ => trivial) (fun _ _ => trivial)).cutFrom (lo := i) (by omega)).ext (Ext.refl w2).drew) (by omega) rfl fun w3 v3 o3 g3 z3 => ?_
      refine WH.next trivial ?_
      exact WH.done [(9, .slice (some ⟨g1, 0, none⟩) ((over (us.take i ++ List.replicate (us.length + 1 - i) z1) i [u]).length) c1)] (by kernel_rfl) ⟨Y, trivial⟩ ⟨Y, o3, ⟨g3.os, g3.tape, g3.output, g3.size, g3.block, Nat.le_trans (Nat.le_succ _) g3.drawn⟩⟩
    rintro _ w3 ⟨rfl, o3, g3⟩
    have hov : over (over (us.take i ++ List.replicate (us.length + 1 - i) z1) i [u]) (i + 1) (us.drop i) = us.take i ++ [u] ++ us.drop i := Ue us u z1 hi
    rw [hov] at o3
    refine WP.region ?_
    refine WL.ev (Ev.move Y) Y ?_
    refine WL.ev (Ev.assign Y) Y ?_
    refine WL.done ?_
    refine WP.ret (aA.aP (aA.aD (v := .slice (some ⟨g1, 0, none⟩) ((over (us.take i ++ List.replicate (us.length + 1 - i) z1) i [u]).length) c1) Y Y Y ?_))
    have hl3 : (us.take i ++ [u] ++ us.drop i).length = us.length + 1 := by simp only [List.length_append, List.length_take, List.length_drop, List.length_cons, List.length_nil]; omega
    exact ⟨_, _, by rw [hl2, ← hl3], o3.low (by exact eb.size) (fun _ h => h), Ext.Rw e1 g2 g3 hz1, .inr ⟨g1, rfl, hz1⟩⟩
  replace hc31 := of_decide_eq_false hc31
  refine WP.skip (aA.norm ?_)
  refine WP.region ?_
  refine WL.ev (Ev.move Y) Y ?_
  refine WL.ev (Ev.move Y) Y ?_
  refine WL.ev (Ev.move Y) Y ?_
  refine WL.ev (Ev.add Y Y (eX.mk (by omega) (by omega))) Y ?_
  refine WL.ev (Ev.Dw (hi := us.length + 1) Tryz.underlying130 j5 Y Y Y (by omega)) Y ?_
  refine WL.ev (Ev.assign Y) Y ?_
  refine WL.done ?_
  refine WP.seq ?_
  refine WP.region ?_
  refine WL.ev (Ev.move Y) Y ?_
  refine WL.ev (Ev.move Y) Y ?_
  refine WL.ev (Ev.move Y) Y ?_
  refine WL.ev (Ev.move Y) Y ?_
  refine WL.ev (Ev.add Y Y (eX.mk (by omega) (by omega))) Y ?_
  refine WL.ev (Ev.mM (lo := i + 1) Tryz.underlying130 j5 Y Y Y (by omega) (by omega)) Y ?_
  obtain ⟨gA, cA, rfl, amc, hAb, hAn, hAm, hAl, hAt⟩ := j3.open_ (by omega)
  have afd : gv ≠ gA := fun h => hgv (by rw [h]; rfl)
  have hcut : oD (some ⟨gA, 0, none⟩) c (i + 1) 2 = some ⟨gA, (i + 1) * 2, none⟩ := sV (by omega)
  refine WL.extern (v := .bool false) Y Y Y ?_ Y ?_
  · show (callFunc 169 #[.slice (some ⟨gv, 0, none⟩) 1 1, .slice (oD (some ⟨gA, 0, none⟩) c (i + 1) 2) (us.length + 1 - (i + 1)) (c - (i + 1))]).run Tryz.prog w = _
    rw [hcut]
    exact CJ (tR := 4) Tryz.func169 (by kernel_rfl) (by kernel_rfl) (by kernel_rfl) (by kernel_rfl) Tryz.underlying130 j5 h_v hAb afd (by rw [hAl]; exact Nat.mul_pos (by omega) (by decide))
  refine WL.ev (Ev.not Y) Y ?_
  refine WL.done ?_
  refine WP.aG Y (fun _h => ?_) (fun _h => absurd _h (by decide))
  refine WP.held (fun _ => True) (fun lJ w' => lJ = [(0, .slice (some ⟨gA, 0, none⟩) (us.length + 1) c), (1, .int .i64 ((i : Nat) : Int)), (2, .slice (some ⟨gv, 0, none⟩) 1 1), (7, .int .i64 ((1 : Nat) : Int))] ∧ Gap 173 b.heap.size w' (some ⟨gA, 0, none⟩) c us i 1 ∧ yw w w' (some gA) ∧ w'.heap.size = w.heap.size) (by kernel_rfl) ?_ ?_
  · refine WH.pI (fuel := 8) 0 Y (by kernel_rfl) (by kernel_rfl) (by kernel_rfl) (fun _ => (Ev.move Y)) Y ?_
    refine WH.pI (fuel := 7) 1 Y (by kernel_rfl) (by kernel_rfl) (by kernel_rfl) (fun _ => (Ev.move Y)) Y ?_
    refine WH.pI (fuel := 6) 2 Y (by kernel_rfl) (by kernel_rfl) (by kernel_rfl) (fun _ => (Ev.move Y)) Y ?_
    refine WH.pI (fuel := 5) 3 Y (by kernel_rfl) (by kernel_rfl) (by kernel_rfl) (fun _ => (Ev.add Y Y (eX.mk (by omega) (by omega)))) Y ?_
    refine WH.pI (fuel := 4) 4 Y (by kernel_rfl) (by kernel_rfl) (by kernel_rfl) (fun _ => (Ev.mM (lo := i + 1) Tryz.underlying130 j5 Y Y Y (by omega) (by omega))) Y ?_
    refine WH.pI (fuel := 3) 5 Y (by kernel_rfl) (by kernel_rfl) (by kernel_rfl) (fun _ => (Ev.move Y)) Y ?_
    refine WH.pI (fuel := 2) 6 Y (by kernel_rfl) (by kernel_rfl) (by kernel_rfl) (fun _ => (Ev.move Y)) Y ?_
    refine WH.pI (fuel := 1) 7 Y (by kernel_rfl) (by kernel_rfl) (by kernel_rfl) (fun _ => (Ev.mM (lo := i) Tryz.underlying130 j5 Y Y Y (by omega) (by omega))) Y ?_
    refine WH.all (fuel := 0) (rs := [8]) (by kernel_rfl) (by decide) ?_
    simp only [List.forall_mem_cons, List.not_mem_nil, false_implies, implies_true, and_true]
    refine ⟨_, Y, ?_⟩
    refine WL.Rq (i := i) (m := 1) (us := us) (kp := by decide) rfl rfl Tryz.underlying130 j5 (j3.ext (Ext.refl w).drew) (by omega) (by omega) rfl fun w1 v1 o1 g1 z1 => ?_
    refine WH.next trivial ?_
    exact WH.done [(0, .slice (some ⟨gA, 0, none⟩) (us.length + 1) c), (1, .int .i64 ((i : Nat) : Int)), (2, .slice (some ⟨gv, 0, none⟩) 1 1), (7, .int .i64 ((1 : Nat) : Int))] (by kernel_rfl) ⟨Y, Y, Y, Y, trivial⟩ ⟨Y, o1, ⟨g1.os, g1.tape, g1.output, g1.size, g1.block, Nat.le_trans (Nat.le_succ _) g1.drawn⟩, z1⟩
  rintro _ w1 ⟨rfl, o1, g1, z1⟩
  refine WP.region ?_
  refine WL.ev (Ev.move Y) Y ?_
  refine WL.ev (Ev.move Y) Y ?_
  refine WL.ev (Ev.mM (lo := i) Tryz.underlying130 j5 Y Y Y (by omega) (by omega)) Y ?_
  refine WL.ev (Ev.move Y) Y ?_
  have aiA := h_v.mod (Mod.kQ g1 (fun k hk => by cases hk; rfl)) afd
  have hv1 : Sl (oF 2 (by decide)) Any w1 (some ⟨gv, 0, none⟩) 1 [u] := aiA.NV (S := Any) (S2 := No) rfl trivial (fun _ h => h.elim)
  refine WL.Yn (i := i) (m := 1) (us := us) (vs := [u]) (kp := by decide) (S := No) rfl rfl Tryz.underlying130 j5 o1 hv1 rfl (by omega) (by omega) rfl fun w2 v2 o2 g2 z2 => ?_
  have hl2 : (us.take i ++ [u] ++ us.drop i).length = us.length + 1 := by simp only [List.length_append, List.length_take, List.length_drop, List.length_cons, List.length_nil]; omega
  refine WL.re (t := 0) (u := .slice (some ⟨gA, 0, none⟩) (us.length + 1) c) (v := .slice (some ⟨gA, 0, none⟩) (us.take i ++ [u] ++ us.drop i).length c) Y (by rw [hl2]) ?_
  refine WL.done ?_
  refine WP.region ?_
  refine WL.ev (Ev.move Y) Y ?_
  refine WL.ev (Ev.assign Y) Y ?_
  refine WL.done ?_
  refine WP.ret (aA.aP (aA.aD (v := .slice (some ⟨gA, 0, none⟩) ((us.take i ++ [u] ++ us.drop i).length) c) Y Y Y ?_))
  exact ⟨_, _, Y, o2, IK g1 g2, .inl Y⟩
theorem Gf {b w : World} {S : Nat → Prop} {rs rest sW : List jP} {A : an3} {c : Nat} {l : List bP} {gv : Nat} {x : bP} {i : Nat} (H : Hp b S w rs) (s : nS rs (aQ fO 173 A c l) rest) (sv : nS rest (aQ fO 173 (some ⟨gv, 0, none⟩) 1 [x]) sW) (hi : i ≤ l.length) (hn : l.length ≤ 900000) :
    bY Tryz.prog 135 #[.slice A l.length c, .int .i64 (i : Int), .slice (some ⟨gv, 0, none⟩) 1 1] w fun v w' => ∃ A' c', v = .slice A' (l.take i ++ [x] ++ l.drop i).length c' ∧ Hp b S w' (aQ fO 173 A' c' (l.take i ++ [x] ++ l.drop i) :: sW) := by
  obtain ⟨us, hU, hr⟩ : ∃ us : List (Cells 2), Own (oF 2 (by decide)) 173 b.heap.size No w A c us ∧ Rel fO (Rd b S rs w) w l us := H.raw s
  have hl : us.length = l.length := hr.1
  have H1 := H.sel s
  obtain ⟨cs, hb, hx⟩ := Own.aaY (H1.ow (.t sv))
  have hx' : fO.R (Rd b S rs w) w x cs := Ty.sub _ (Rd.perm s.perm.symm) hx
  have h0 := EU (u := ⟨cs, Ty.len _ hx, Ty.one _ hx⟩) H.ext hU hb (H.aaZ s sv rfl) (by rw [hl]; exact hi) (by rw [hl]; exact hn)
  rw [hl] at h0
  refine h0.mono ?_
  rintro v w' ⟨A', c', rfl, hO, hg, hat⟩
  have h1 := ((hr.take i).append (Rel.one (τ := fO) (S := Rd b S rs w) (w := w) (x := x) (u := ⟨cs, Ty.len _ hx, Ty.one _ hx⟩) hx')).append (hr.drop i)
  have h2 : (us.take i ++ [(⟨cs, Ty.len _ hx, Ty.one _ hx⟩ : Cells 2)] ++ us.drop i).length = (l.take i ++ [x] ++ l.drop i).length := h1.1
  refine ⟨A', c', by rw [h2], (Hp.back (β := Unit) H s hO h1 hg ?_).rm (.t sv)⟩
  intro g hg'
  rcases hat with h | ⟨g', h, hle⟩
  · exact .inl (h ▸ hg')
  · rw [h] at hg'; cases hg'; exact .inr hle
theorem Bz {b w : World} {S : Nat → Prop} {F : List jP} {g : Nat} {v0 v2 v3 v4 v5 v6 v7 v8 v9 v10 v11 v12 v13 v14 v15 v16 : Value} {AL : an3} {cL : Nat} {ls : List ALease}  (H0 : Hp b S w (dG g 81 [v0, .slice AL ls.length cL, v2, v3, v4, v5, v6, v7, v8, v9, v10, v11, v12, v13, v14, v15, v16] :: aQ tLease 77 AL cL ls :: F)) (hl : ls.length ≤ 1000) (dJ : Int) :
    bY Tryz.prog 82 #[.pointer (some ⟨g, 0, none⟩), .int .i64 dJ] w fun v w' => ∃ A c, v = .slice A (dO ls dJ).length c ∧ Hp b S w' (aQ tInt 3 A c (dO ls dJ) :: dG g 81 [v0, .slice AL ls.length cL, v2, v3, v4, v5, v6, v7, v8, v9, v10, v11, v12, v13, v14, v15, v16] :: aQ tLease 77 AL cL ls :: F) := by
 refine WP.enter Tryz.func82 Y Tryz.ntmps82 Y ?_
 have hq := fun k => List.length_filter_le (fun (x : ALease) => decide (x.aB = dJ)) (ls.take k)
 simp only [List.length_take] at hq
 refine rg <| aR Y <| dn <| rg <| aR Y <| dn <| WP.seq <| rg <| mv Y <| ev (Ev.nilCheck Y) <| ev (Ev.field (q := ⟨g, 0, none⟩) lC Y Y) <| ev (Ev.field (q := ⟨g, 1, none⟩) iV Y Y) <| ev (Ev.aj oo Y (H0.x s0) Y) <| ev (Ev.len Tryz.underlying28 Y) <| mv Y <| dn <| WP.block ?_
 have H1 := H0.nil tInt 3
 have hq1 : (([] : List Int) : List Int) = (((ls.take 0).filter (fun (x : ALease) => decide (x.aB = dJ))).map ALease.To) := by rfl
 refine WP.re (t := 5) Y (congrArg (fun z => Value.slice none (List.length z) 0) hq1) ?_
 have H2 := H1.nil tInt 3
 have H3 := (hq1 ▸ H2 : Hp b S w (aQ tInt 3 none 0 (((ls.take 0).filter (fun (x : ALease) => decide (x.aB = dJ))).map ALease.To) :: (aQ tInt 3 none 0 [] :: dG g 81 [v0, .slice AL ls.length cL, v2, v3, v4, v5, v6, v7, v8, v9, v10, v11, v12, v13, v14, v15, v16] :: aQ tLease 77 AL cL ls :: F)))
 refine Lp ((H3.rm s1).rm s0) (fun l0 rk mJ lJ wJ => ∃ (k : Nat) (A5 : an3) (c5 : Nat), lJ = (5, .slice A5 ((((ls.take k).filter (fun (x : ALease) => decide (x.aB = dJ))).map ALease.To).length) c5) :: (14, .int .i64 ((k : Nat) : Int)) :: l0 ∧ mJ = ls.length - k ∧ k ≤ ls.length ∧ Hp b S wJ (aQ tInt 3 A5 c5 (((ls.take k).filter (fun (x : ALease) => decide (x.aB = dJ))).map ALease.To) :: rk)) ⟨0, none, 0, Y, Y, Nat.zero_le _, (H3.rm s1)⟩ Y ?_
 rintro _ _ w1 ⟨k, A5, c5, rfl, rfl, hk, K1⟩
 refine rg <| ev (Ev.lss Y Y) <| dn ?_
 refine WP.cond Y (fun qL => ?_) (fun qL => ?_)
 ·
  replace qL := of_decide_eq_true qL
  refine WP.skip (aA.norm ?_)
  refine WP.seq <| WP.block <| rg ?_
  obtain ⟨x1, hx1⟩ := get_some (xs := ls) (i := k) (by omega)
  refine ev (Ev.index (i := k) Tryz.underlying28 lu Y Y Y (aC hx1) ((K1.o s2).some_ hx1)) <| ev (Ev.loadRow pK Y Y ((K1.o s2).dx hx1)) ?_
  refine al zB Y K1 fun g1 w2 K2 => ?_
  refine iW Y Y Y lu K2 s0 Y Y fun w3 K3 => ?_
  refine dn <| rg <| ev (Ev.field (q := ⟨g1, 0, none⟩) rM Y Y) <| ev (Ev.aj bf Y (K3.x s0) Y) <| mv Y <| ev (Ev.eql Y Y) <| dn ?_
  refine WP.aG Y (fun hc21 => ?_) (fun hc21 => ?_)
  ·
   replace hc21 := of_decide_eq_true hc21
   refine eP <| mv Y <| ev (Ev.field (q := ⟨g1, 3, none⟩) jl Y Y) <| ev (Ev.aj bf Y (K3.x s0) Y) ?_
   refine ni (τ := tInt) (x := x1.To) Y (by intro _; apply jk) rfl K3 (fun _ _ => rfl) fun g2 w4 K4 => ?_
   refine ap (ys := ([x1.To] : List Int)) K4 s2 Y Y (K4.o s0) Tryz.underlying51 uF (by have := hq k; simp only [List.length_map]; omega) (by simp) rfl fun jg jh w5 K5 => ?_
   refine aR Y <| eT ?_
   refine aA.aS (aA.norm ?_)
   refine eP <| ev (Ev.add Y Y (eX.mk (by omega) (by omega))) <| mv Y <| eT ?_
   have hq2 : (((((ls.take k).filter (fun (x : ALease) => decide (x.aB = dJ))).map ALease.To) ++ ([x1.To] : List Int)) : List Int) = (((ls.take (k + 1)).filter (fun (x : ALease) => decide (x.aB = dJ))).map ALease.To) := by rw [fQ hx1]; simp [hc21]
   refine aA.re (t := 5) Y (congrArg (fun z => Value.slice jg (List.length z) jh) hq2) ?_
   rw [hq2] at K5
   exact aA.ag ⟨(k + 1), jg, jh, Y, Y, by omega, ((K5.rm s2).rm s1)⟩ rfl (by omega)
  replace hc21 := of_decide_eq_false hc21
  refine WP.skip (aA.aS (aA.norm ?_))
  refine eP <| ev (Ev.add Y Y (eX.mk (by omega) (by omega))) <| mv Y <| eT ?_
  have hq3 : ((((ls.take k).filter (fun (x : ALease) => decide (x.aB = dJ))).map ALease.To) : List Int) = (((ls.take (k + 1)).filter (fun (x : ALease) => decide (x.aB = dJ))).map ALease.To) := by rw [fQ hx1]; simp [hc21]
  refine aA.re (t := 5) Y (congrArg (fun z => Value.slice A5 (List.length z) c5) hq3) ?_
  rw [hq3] at K3
  exact aA.ag ⟨(k + 1), A5, c5, Y, Y, by omega, (K3.rm s0)⟩ rfl (by omega)
 replace qL := of_decide_eq_false qL
 refine WP.exit (aA.aF (aA.aF (aA.bS (aA.norm ?_))))
 refine rg <| mv Y <| aR Y <| dn ?_
 refine WP.ret (aA.aD Y Y Y ?_)
 have hfx : (((ls.take k).filter (fun (x : ALease) => decide (x.aB = dJ))).map ALease.To) = (dO ls dJ) := by rw [List.take_of_length_le (by omega)]; rfl
 rw [hfx] at K1
 exact ⟨_, _, by rw [hfx] <;> rfl, K1⟩
theorem Hu {b w : World} {S : Nat → Prop} {F : List jP} {g : Nat} {v0 v2 v5 v6 v7 v8 v9 v10 v11 v12 v13 v14 v15 v16 : Value} {AL : an3} {cL : Nat} {ls : List ALease} {AN : an3} {cN : Nat} {ns : List ANode} {AK : an3} {cK : Nat} {ks : List AChunk}  (H0 : Hp b S w (dG g 81 [v0, .slice AL ls.length cL, v2, .slice AN ns.length cN, .slice AK ks.length cK, v5, v6, v7, v8, v9, v10, v11, v12, v13, v14, v15, v16] :: aQ tLease 77 AL cL ls :: fM tNode AN cN ns :: fM tChunk AK cK ks :: F)) (hl : ls.length ≤ 1000) (hn : ns.length ≤ 1000) (hc : ks.length ≤ 1000) :
    bY Tryz.prog 85 #[.pointer (some ⟨g, 0, none⟩)] w fun v w' => ∃ A c, v = .slice A (aO ks ns ls).length c ∧ Hp b S w' (aQ fO 173 A c (aO ks ns ls) :: dG g 81 [v0, .slice AL ls.length cL, v2, .slice AN ns.length cN, .slice AK ks.length cK, v5, v6, v7, v8, v9, v10, v11, v12, v13, v14, v15, v16] :: aQ tLease 77 AL cL ls :: fM tNode AN cN ns :: fM tChunk AK cK ks :: F) := by
 refine WP.enter Tryz.func85 Y Tryz.ntmps85 Y <| rg <| aR Y <| dn ?_
 refine He H0 (fun _ K => K) (fun l0 rk lJ wJ => ∃ (jw : an3) (jy : Nat), lJ = (3, .slice jw ((iU ks ns).length) jy) :: l0 ∧ Hp b S wJ (aQ fO 173 jw jy (iU ks ns) :: rk)) (fun hns H1 => ?_) ?_
 ·
  refine Tm 0 1 hns Y Y H1 <| Tn 1 3 hns Y (fun _ _ => Ev.nilCheck Y) H1 <| Tn 2 7 hns Y (fun _ _ => Ev.field (q := ⟨g, 3, none⟩) uU Y Y) H1 ?_
  refine Tn 3 15 hns Y (fun _ _ => Ev.field (q := ⟨g, 4, none⟩) mg Y Y) H1 <| Tn 4 31 hns Y (fun _ hK => Ev.aj nM Y (hK.x s0) Y) H1 ?_
  refine Tm 5 63 hns Y Y H1 <| Tn 6 127 hns Y (fun _ _ => Ev.nilCheck Y) H1 <| Tn 7 255 hns Y (fun _ _ => Ev.field (q := ⟨g, 3, none⟩) uU Y Y) H1 ?_
  refine Tn 8 511 hns Y (fun _ _ => Ev.field (q := ⟨g, 3, none⟩) oq Y Y) H1 <| Tn 9 1023 hns Y (fun _ hK => Ev.aj lS Y (hK.x s0) Y) H1 ?_
  refine O1 10 Y <| WL.call Y Y Y UY (GR _ (H1.s s3).any (H1.s s2).any (by omega)) Y ?_
  rintro _ w1 ⟨mQ, mR, rfl, h1⟩
  have K1 := H1.f1 h1
  have Eu := (K1.o s0).aN
  have k1 := (K1.rm s0)
  refine WH.next k1 <| Ta 11 4095 hns Y Y k1 ?_
  exact Dn ⟨mQ, mR, Y, K1⟩ Y
 rintro _ w2 ⟨jw, jy, rfl, K2⟩
 refine WP.seq <| rg <| mv Y <| ev (Ev.nilCheck Y) <| ev (Ev.field (q := ⟨g, 0, none⟩) lC Y Y) <| ev (Ev.field (q := ⟨g, 1, none⟩) iV Y Y) <| ev (Ev.aj oo Y (K2.x s1) Y) <| ev (Ev.len Tryz.underlying28 Y) <| mv Y <| dn <| WP.block ?_
 have hq1 : (iU ks ns : List bP) = (aO ks ns (ls.take 0)) := by rfl
 refine WP.re (t := 3) Y (congrArg (fun z => Value.slice jw (List.length z) jy) hq1) ?_
 rw [hq1] at K2
 refine WP.lp (fun mJ lJ wJ => ∃ (k : Nat) (A3 : an3) (c3 : Nat), lJ = [(3, .slice A3 ((aO ks ns (ls.take k)).length) c3), (21, .slice AL ls.length cL), (22, .int .i64 ((ls.length : Nat) : Int)), (23, .int .i64 ((k : Nat) : Int))] ∧ mJ = ls.length - k ∧ k ≤ ls.length ∧ Hp b S wJ (aQ fO 173 A3 c3 (aO ks ns (ls.take k)) :: dG g 81 [v0, .slice AL ls.length cL, v2, .slice AN ns.length cN, .slice AK ks.length cK, v5, v6, v7, v8, v9, v10, v11, v12, v13, v14, v15, v16] :: aQ tLease 77 AL cL ls :: fM tNode AN cN ns :: fM tChunk AK cK ks :: F)) ⟨0, jw, jy, Y, Y, Nat.zero_le _, K2⟩ Y ?_
 rintro _ _ w3 ⟨k, A3, c3, rfl, rfl, hk, K3⟩
 refine rg <| ev (Ev.lss Y Y) <| dn ?_
 refine WP.cond Y (fun hc24 => ?_) (fun hc24 => ?_)
 ·
  replace hc24 := of_decide_eq_true hc24
  refine WP.skip (aA.norm ?_)
  refine WP.seq <| WP.block <| rg ?_
  obtain ⟨x1, hx1⟩ := get_some (xs := ls) (i := k) (by omega)
  refine ev (Ev.index (i := k) Tryz.underlying28 lu Y Y Y (aC hx1) ((K3.o s2).some_ hx1)) <| ev (Ev.loadRow pK Y Y ((K3.o s2).dx hx1)) ?_
  refine al zB Y K3 fun g1 w4 K4 => ?_
  refine iW Y Y Y lu K4 s0 Y Y fun w5 K5 => ?_
  refine dn ?_
  have hgb := xR ks ns (ls.take k)
  simp only [List.length_take] at hgb
  have hpb : 0 ≤ fJ (aO ks ns (ls.take k)) x1.To ∧ fJ (aO ks ns (ls.take k)) x1.To ≤ 2000 := Jk (P := fun z => 0 ≤ z ∧ z ≤ 2000) (by omega) (fun x hx => by have := hgb.1 x hx; omega) _
  refine Hf K5 (fun _ K => (K.rm s1)) (fun l0 rk lJ wJ => ∃ (o9 : an3) (cj2 : Nat), lJ = (3, .slice o9 (((aO ks ns (ls.take k)).take 0 ++ [(⟨x1.To, fJ (aO ks ns (ls.take k)) x1.To + 1⟩ : bP)] ++ (aO ks ns (ls.take k)).drop 0).length) cj2) :: l0 ∧ Hp b S wJ (aQ fO 173 o9 cj2 ((aO ks ns (ls.take k)).take 0 ++ [(⟨x1.To, fJ (aO ks ns (ls.take k)) x1.To + 1⟩ : bP)] ++ (aO ks ns (ls.take k)).drop 0) :: rk)) (fun hns H2 => ?_) ?_
  ·
   have k2 := (H2.rm s1)
   refine Tm 0 1 hns Y Y k2 <| Tn 1 3 hns Y (fun _ _ => Ev.field (q := ⟨g1, 3, none⟩) jl Y Y) k2 <| Tn 2 7 hns Y (fun _ hK => Ev.aj bf Y (hK.x s0) Y) k2 ?_
   refine Tm 3 15 hns Y Y k2 <| Tn 4 31 hns Y (fun _ _ => Ev.field (q := ⟨g1, 3, none⟩) jl Y Y) k2 <| Tn 5 63 hns Y (fun _ hK => Ev.aj bf Y (hK.x s0) Y) k2 ?_
   refine O1 6 Y ?_
   refine C0 H2 Y Y Y qI (lQ _ (H2.o s1) x1.To) fun w6 K6 => ?_
   have k3 := (K6.rm s1)
   refine WH.next k3 <| Tn 7 255 hns Y (fun _ _ => Ev.add Y Y (eX.mk (by omega) (by omega))) k3 <| Tn 8 511 hns Y (fun _ _ => Ev.build (vs := [(0, .int .i64 x1.To), (1, .int .i64 (fJ (aO ks ns (ls.take k)) x1.To + 1))]) (cs := [.int .i64 x1.To, .int .i64 (fJ (aO ks ns (ls.take k)) x1.To + 1)]) Y (by apply p9)) k3 ?_
   refine O1 9 Y ?_
   refine ni (τ := fO) (x := (⟨x1.To, fJ (aO ks ns (ls.take k)) x1.To + 1⟩ : bP)) Y (by intro _; apply rC) rfl K6 (fun _ _ => rfl) fun g2 w7 K7 => ?_
   have k4 := ((K7.rm s2).rm s0)
   refine WH.next k4 <| O1 10 Y <| WL.call Y Y Y acH (Gf (i := 0) K7 s2 s0 (by omega) (by omega)) Y ?_
   rintro _ w8 ⟨jg, jh, rfl, K8⟩
   have k5 := (K8.rm s0)
   refine WH.next k5 <| Ta 11 4095 hns Y Y k5 ?_
   exact Dn ⟨jg, jh, Y, K8⟩ Y
  rintro _ w9 ⟨o9, cj2, rfl, K9⟩
  refine aA.aS (aA.norm ?_)
  refine eP <| ev (Ev.add Y Y (eX.mk (by omega) (by omega))) <| mv Y <| eT ?_
  have hq2 : (((aO ks ns (ls.take k)).take 0 ++ [(⟨x1.To, fJ (aO ks ns (ls.take k)) x1.To + 1⟩ : bP)] ++ (aO ks ns (ls.take k)).drop 0) : List bP) = (aO ks ns (ls.take (k + 1))) := by rw [BZ hx1]; rfl
  refine aA.re (t := 3) Y (congrArg (fun z => Value.slice o9 (List.length z) cj2) hq2) ?_
  rw [hq2] at K9
  exact aA.ag ⟨(k + 1), o9, cj2, Y, Y, by omega, (K9.rm s1)⟩ rfl (by omega)
 replace hc24 := of_decide_eq_false hc24
 refine WP.exit (aA.aF (aA.aF (aA.bS (aA.norm ?_))))
 refine rg <| mv Y <| aR Y <| dn ?_
 refine WP.ret (aA.aD Y Y Y ?_)
 have hfx : (aO ks ns (ls.take k)) = (aO ks ns ls) := by rw [List.take_of_length_le (by omega)]
 rw [hfx] at K3
 exact ⟨_, _, by rw [hfx] <;> rfl, K3⟩
end Go.Proofs.YtjcklpooaaaglaaGreat
set_option maxRecDepth 4000
set_option linter.all false
namespace Go.Proofs.YtjcklpooaaaglaaGreat
open Go.RowKit
abbrev rU (c : AChunk) (fr dM u : Int) : ALease := ⟨c.ID, c.ay, fr, dM, u⟩
abbrev Qz (c : AChunk) (fr dM u : Int) : AOrder := ⟨0, c.ID, c.ay, c.Sum, fr, dM, u⟩
def rV (ls : List ALease) (bg all : Int) (c : AChunk) (fr dM u : Int) : Bool := decide (gH ls (rU c fr dM u) bg all = 0)
def kG (ls : List ALease) (bg all : Int) (c : AChunk) (fr dM u : Int) : List ALease := if rV ls bg all c fr dM u = true then ls ++ [rU c fr dM u] else ls
def mY (ls : List ALease) (os : List AOrder) (bg all : Int) (c : AChunk) (fr dM u : Int) : List AOrder := if rV ls bg all c fr dM u = true then os ++ [Qz c fr dM u] else os
theorem QA {ls : List ALease} {bg all : Int} {c : AChunk} {fr dM u : Int} (h : ¬ gH ls (rU c fr dM u) bg all = 0) : rV ls bg all c fr dM u = false ∧ kG ls bg all c fr dM u = ls ∧ ∀ os, mY ls os bg all c fr dM u = os := by
  have hb : rV ls bg all c fr dM u = false := decide_eq_false h
  refine ⟨hb, if_neg (by rw [hb]; decide), fun os => if_neg (by rw [hb]; decide)⟩
theorem MH {ls : List ALease} {bg all : Int} {c : AChunk} {fr dM u : Int} (h : gH ls (rU c fr dM u) bg all = 0) : rV ls bg all c fr dM u = true ∧ kG ls bg all c fr dM u = gB ls (rU c fr dM u) bg all ∧ ∀ os, mY ls os bg all c fr dM u = os ++ [Qz c fr dM u] := by
  have hb : rV ls bg all c fr dM u = true := decide_eq_true h
  refine ⟨hb, ?_, fun os => if_pos hb⟩
  unfold kG gB; rw [if_pos hb, if_pos h]
theorem QB : dL Tryz.prog 81 3 12 := fun _ _ => by kernel_rfl
theorem rW : dL Tryz.prog 81 2 6 := fun _ _ => by kernel_rfl
theorem pq (a0 : Int) (a1 : Int) (a2 : Int) (a3 : Int) (a4 : Int) : Tryz.prog.built 77 [(0, .int .i64 a0), (1, .int .i64 a1), (2, .int .i64 a2), (3, .int .i64 a3), (4, .int .i64 a4)] = some #[.int .i64 a0, .int .i64 a1, .int .i64 a2, .int .i64 a3, .int .i64 a4] := by kernel_rfl
theorem acI : aM Tryz.prog 137 := fun _ _ => by kernel_rfl
theorem xS : dL Tryz.prog 81 6 15 := fun _ _ => by kernel_rfl
theorem iO (a0 : Int) (a1 : Int) (a2 : Int) (a3 : Int) (a4 : Int) (a5 : Int) (a6 : Int) : Tryz.prog.built 50 [(0, .int .i64 a0), (1, .int .i64 a1), (2, .int .i64 a2), (3, .int .u32 a3), (4, .int .i64 a4), (5, .int .i64 a5), (6, .int .i64 a6)] = some #[.int .i64 a0, .int .i64 a1, .int .i64 a2, .int .u32 a3, .int .i64 a4, .int .i64 a5, .int .i64 a6] := by kernel_rfl
theorem cB (a0 : Int) (a1 : Int) (a2 : Int) (a3 : Int) (a4 : Int) (a5 : Int) (a6 : Int) : ∀ w, (Instr.buildSlice 29 1 (List.toArray [(0, .agg #[.int .i64 a0, .int .i64 a1, .int .i64 a2, .int .u32 a3, .int .i64 a4, .int .i64 a5, .int .i64 a6])])).run Tryz.prog w = .ok (.slice (some ⟨w.heap.size, 0, none⟩) 1 1) (w.alloc (.cells (List.toArray [.int .i64 a0, .int .i64 a1, .int .i64 a2, .int .u32 a3, .int .i64 a4, .int .i64 a5, .int .i64 a6]) 50)) := fun _ => by kernel_rfl
set_option maxHeartbeats 1000000 in
theorem EW {b w : World} {S : Nat → Prop} {F : List jP} {g : Nat} {v0 v2 v3 v4 v5 v6 v9 v11 v13 v14 v16 : Value} {AL AO Bc : an3} {cL cO dc : Nat} {ls : List ALease} {os : List AOrder} {bg all aY now : Int} (H0 : Hp b S w (dG g 81 [v0, .slice AL ls.length cL, v2, v3, v4, v5, v6, .int .i64 bg, .int .i64 all, v9, .int .i64 aY, v11, .int .i64 now, v13, v14, .slice AO os.length cO, v16] :: aQ tLease 77 AL cL ls :: aQ tOrder 50 AO cO os :: F)) (c : AChunk) (fr dM : Int) (hn : ls.length ≤ 100) (ho : os.length ≤ 100000) (hu : -1099511627776 ≤ now ∧ now ≤ 4398046511104 ∧ -1099511627776 ≤ aY ∧ aY ≤ 1099511627776) :
    bY Tryz.prog 87 #[.pointer (some ⟨g, 0, none⟩), .agg #[.int .i64 c.ID, .int .i64 c.ay, .int .u32 c.Sum, .slice Bc c.av.length dc], .int .i64 fr, .int .i64 dM] w fun v w' => v = .bool (rV ls bg all c fr dM (now + aY)) ∧ ∃ QC QD Hy Hz, Hp b S w' (dG g 81 [v0, .slice QC ((kG ls bg all c fr dM (now + aY)).length) QD, v2, v3, v4, v5, v6, .int .i64 bg, .int .i64 all, v9, .int .i64 aY, v11, .int .i64 now, v13, v14, .slice Hy ((mY ls os bg all c fr dM (now + aY)).length) Hz, v16] :: aQ tLease 77 QC QD (kG ls bg all c fr dM (now + aY)) :: aQ tOrder 50 Hy Hz (mY ls os bg all c fr dM (now + aY)) :: F) := by
 refine WP.enter Tryz.func87 Y Tryz.ntmps87 Y <| rg ?_
 refine bx Y Y H0 fun g1 w1 K1 => ?_
 refine aR Y <| dn <| WP.draw (by kernel_rfl) (by kernel_rfl) <| WQ.ev (Ev.move Y) Y <| WQ.ev (Ev.nilCheck Y) Y <| WQ.ev (Ev.field (q := ⟨g, 12, none⟩) QB Y Y) Y <| WQ.ev (Ev.aj bf Y (K1.x s1) Y) Y <| WQ.ev (Ev.move Y) Y <| WQ.ev (Ev.nilCheck Y) Y <| WQ.ev (Ev.field (q := ⟨g, 6, none⟩) rW Y Y) Y <| WQ.ev (Ev.field (q := ⟨g, 10, none⟩) xP Y Y) Y <| WQ.ev (Ev.aj bf Y (K1.x s1) Y) Y <| WQ.ev (Ev.add Y Y (eX.mk (by omega) (by omega))) Y ?_
 refine WQ.ev (Ev.assign Y) Y ?_
 refine WQ.done fun w2 e2 => ?_
 have K2 := K1.grow e2
 refine He K2 (fun _ K => K) (fun l0 rk lJ wJ => ∃ (jw : an3) (jy : Nat), lJ = (10, .slice jw ((gB ls (⟨c.ID, c.ay, fr, dM, now + aY⟩ : ALease) bg all).length) jy) :: (11, .int .i64 (gH ls (⟨c.ID, c.ay, fr, dM, now + aY⟩ : ALease) bg all)) :: l0 ∧ Hp b S wJ (aQ tLease 77 jw jy (gB ls (⟨c.ID, c.ay, fr, dM, now + aY⟩ : ALease) bg all) :: rk)) (fun hns H1 => ?_) ?_
 ·
  refine Tm 0 1 hns Y Y H1 <| Tn 1 3 hns Y (fun _ _ => Ev.nilCheck Y) H1 <| Tn 2 7 hns Y (fun _ _ => Ev.field (q := ⟨g, 0, none⟩) lC Y Y) H1 ?_
  refine Tn 3 15 hns Y (fun _ _ => Ev.field (q := ⟨g, 1, none⟩) iV Y Y) H1 <| Tn 4 31 hns Y (fun _ hK => Ev.aj oo Y (hK.x s1) Y) H1 ?_
  refine Tn 5 63 hns Y (fun _ _ => Ev.field (q := ⟨g1, 0, none⟩) gI Y Y) H1 <| Tn 6 127 hns Y (fun _ hK => Ev.aj bf Y (hK.x s0) Y) H1 ?_
  refine Tn 7 255 hns Y (fun _ _ => Ev.field (q := ⟨g1, 1, none⟩) kZ Y Y) H1 <| Tn 8 511 hns Y (fun _ hK => Ev.aj bf Y (hK.x s0) Y) H1 ?_
  refine Tm 9 1023 hns Y Y H1 <| Tm 10 2047 hns Y Y H1 <| Tm 11 4095 hns Y Y H1 <| Tn 12 8191 hns Y (fun _ _ => Ev.build (vs := [(0, .int .i64 c.ID), (1, .int .i64 c.ay), (2, .int .i64 fr), (3, .int .i64 dM), (4, .int .i64 (now + aY))]) (cs := [.int .i64 c.ID, .int .i64 c.ay, .int .i64 fr, .int .i64 dM, .int .i64 (now + aY)]) Y (by apply pq)) H1 ?_
  refine Tm 13 16383 hns Y Y H1 <| Tn 14 32767 hns Y (fun _ _ => Ev.nilCheck Y) H1 <| Tn 15 65535 hns Y (fun _ _ => Ev.field (q := ⟨g, 6, none⟩) rW Y Y) H1 ?_
  refine Tn 16 131071 hns Y (fun _ _ => Ev.field (q := ⟨g, 7, none⟩) xQ Y Y) H1 <| Tn 17 262143 hns Y (fun _ hK => Ev.aj bf Y (hK.x s1) Y) H1 ?_
  refine Tm 18 524287 hns Y Y H1 <| Tn 19 1048575 hns Y (fun _ _ => Ev.nilCheck Y) H1 <| Tn 20 2097151 hns Y (fun _ _ => Ev.field (q := ⟨g, 6, none⟩) rW Y Y) H1 ?_
  refine Tn 21 4194303 hns Y (fun _ _ => Ev.field (q := ⟨g, 8, none⟩) Db Y Y) H1 <| Tn 22 8388607 hns Y (fun _ hK => Ev.aj bf Y (hK.x s1) Y) H1 ?_
  refine O1 23 Y <| WL.call Y Y Y acI (Oz _ (H1.o s2) (⟨c.ID, c.ay, fr, dM, now + aY⟩ : ALease) bg all (by omega)) Y ?_
  rintro _ w3 ⟨qW, qX, rfl, h3⟩
  have K3 := H1.f1 h3
  have Qt := (K3.o s0).aN
  have k1 := (K3.rm s0)
  refine WH.next k1 <| Tm 24 33554431 hns Y Y k1 <| Tn 25 67108863 hns Y (fun _ _ => Ev.extract (vs := [.slice qW ((gB ls (⟨c.ID, c.ay, fr, dM, now + aY⟩ : ALease) bg all).length) qX, .int .i64 (gH ls (⟨c.ID, c.ay, fr, dM, now + aY⟩ : ALease) bg all)]) Y Y) k1 ?_
  refine Tn 26 134217727 hns Y (fun _ _ => Ev.extract (vs := [.slice qW ((gB ls (⟨c.ID, c.ay, fr, dM, now + aY⟩ : ALease) bg all).length) qX, .int .i64 (gH ls (⟨c.ID, c.ay, fr, dM, now + aY⟩ : ALease) bg all)]) Y Y) k1 ?_
  refine Ta 27 268435455 hns Y Y k1 <| Ta 28 536870911 hns Y Y k1 ?_
  exact Dn ⟨qW, qX, Y, K3⟩ Y
 rintro _ w4 ⟨jw, jy, rfl, K4⟩
 refine WP.seq <| rg <| mv Y <| ev (Ev.neq Y Y) <| dn ?_
 refine WP.aG Y (fun tX => ?_) (fun tX => ?_)
 ·
  replace tX := gJ tX
  refine rg <| aR Y <| dn ?_
  refine WP.ret (aA.aP (aA.aD Y Y Y ?_))
  have H2 := ((K4.rm s1).rm s0)
  have hcn := QA (c := c) (fr := fr) (dM := dM) (u := now + aY) tX
  exact ⟨by rw [hcn.1]; rfl, _, _, _, _, by rw [hcn.2.1, hcn.2.2 os]; exact H2⟩
 replace tX := gD tX
 have hsl : (gB ls (rU c fr dM (now + aY)) bg all).length ≤ ls.length + 1 := by unfold gB; split <;> simp
 refine WP.skip (aA.norm ?_)
 refine rg <| mv Y <| mv Y <| ev (Ev.nilCheck Y) <| ev (Ev.field (q := ⟨g, 0, none⟩) lC Y Y) <| ev (Ev.field (q := ⟨g, 1, none⟩) iV Y Y) ?_
 refine BK Y Y Y V5 K4 s2 Y fun w5 K5 => ?_
 refine dn ?_
 refine He K5 (fun _ K => ((K.rm s4).rm s0)) (fun l0 rk lJ wJ => ∃ (o9 : an3) (cj2 : Nat), lJ = l0 ∧ Hp b S wJ (dG g 81 [v0, .slice jw ((gB ls (⟨c.ID, c.ay, fr, dM, now + aY⟩ : ALease) bg all).length) jy, v2, v3, v4, v5, v6, .int .i64 bg, .int .i64 all, v9, .int .i64 aY, v11, .int .i64 now, v13, v14, .slice o9 ((os ++ ([(⟨0, c.ID, c.ay, c.Sum, fr, dM, now + aY⟩ : AOrder)] : List AOrder)).length) cj2, v16] :: aQ tOrder 50 o9 cj2 (os ++ ([(⟨0, c.ID, c.ay, c.Sum, fr, dM, now + aY⟩ : AOrder)] : List AOrder)) :: rk)) (fun hns H3 => ?_) ?_
 ·
  have k2 := ((H3.rm s4).rm s0)
  refine Tm 0 1 hns Y Y k2 <| Tm 1 3 hns Y Y k2 <| Tn 2 7 hns Y (fun _ _ => Ev.nilCheck Y) k2 <| Tn 3 15 hns Y (fun _ _ => Ev.field (q := ⟨g, 15, none⟩) xS Y Y) k2 ?_
  refine Tn 5 47 hns Y (fun _ _ => Ev.field (q := ⟨g1, 0, none⟩) gI Y Y) k2 <| Tn 6 111 hns Y (fun _ hK => Ev.aj bf Y (hK.x s1) Y) k2 ?_
  refine Tn 7 239 hns Y (fun _ _ => Ev.field (q := ⟨g1, 1, none⟩) kZ Y Y) k2 <| Tn 8 495 hns Y (fun _ hK => Ev.aj bf Y (hK.x s1) Y) k2 ?_
  refine Tn 9 1007 hns Y (fun _ _ => Ev.field (q := ⟨g1, 2, none⟩) rH Y Y) k2 <| Tn 10 2031 hns Y (fun _ hK => Ev.aj BP Y (hK.x s1) Y) k2 ?_
  refine Tm 11 4079 hns Y Y k2 <| Tm 12 8175 hns Y Y k2 <| Tm 13 16367 hns Y Y k2 <| Tn 14 32751 hns Y (fun _ _ => Ev.build (vs := [(0, .int .i64 0), (1, .int .i64 c.ID), (2, .int .i64 c.ay), (3, .int .u32 c.Sum), (4, .int .i64 fr), (5, .int .i64 dM), (6, .int .i64 (now + aY))]) (cs := [.int .i64 0, .int .i64 c.ID, .int .i64 c.ay, .int .u32 c.Sum, .int .i64 fr, .int .i64 dM, .int .i64 (now + aY)]) Y (by apply iO)) k2 ?_
  refine Jn H3 (fun l0 rk lJ wJ => ∃ (g2 : Nat), lJ = (60, .slice AO os.length cO) :: (71, .slice (some ⟨g2, 0, none⟩) (([(⟨0, c.ID, c.ay, c.Sum, fr, dM, now + aY⟩ : AOrder)] : List AOrder).length) 1) :: l0 ∧ Hp b S wJ (aQ tOrder 50 (some ⟨g2, 0, none⟩) 1 ([(⟨0, c.ID, c.ay, c.Sum, fr, dM, now + aY⟩ : AOrder)] : List AOrder) :: rk)) 4 65535 ?_ fun hS1 => ?_
  ·
   rintro _ J8 ⟨g2, rfl, K10⟩
   refine O1 16 Y ?_
   refine ap (ys := ([(⟨0, c.ID, c.ay, c.Sum, fr, dM, now + aY⟩ : AOrder)] : List AOrder)) K10 s5 Y Y (K10.o s0) Tryz.underlying29 vK (by first | omega | (simp; omega) | (simp; done)) (by simp) rfl fun G5 cp2 Om qb => ?_
   have k7 := (((qb.rm s2).rm s1).rm s0)
   refine WH.next k7 <| Tn 17 262143 hns Y (fun _ _ => Ev.nilCheck Y) k7 <| Tn 18 524287 hns Y (fun _ _ => Ev.field (q := ⟨g, 15, none⟩) xS Y Y) k7 ?_
   refine O1 19 Y ?_
   refine BK Y Y Y EM qb s2 Y fun Le oH => ?_
   have k8 := (((oH.rm s2).rm s1).rm s0)
   refine WH.next k8 ?_
   exact Dn ⟨G5, cp2, Y, (oH.rm s2)⟩ Y
  refine O2 4 15 Y Y ?_ ?_
  ·
   refine ev (Ev.aj gV Y (H3.x s0) Y) <| WH.next k2 <| O1 15 Y ?_
   refine ni (τ := tOrder) (x := (⟨0, c.ID, c.ay, c.Sum, fr, dM, now + aY⟩ : AOrder)) Y (by intro _; apply cB) rfl H3 (fun _ _ => rfl) fun g4 RY sP => ?_
   have k9 := (((sP.rm s5).rm s1).rm s0)
   exact Kj hS1 k9 ⟨g4, Y, sP⟩ Y
  ·
   refine ni (τ := tOrder) (x := (⟨0, c.ID, c.ay, c.Sum, fr, dM, now + aY⟩ : AOrder)) Y (by intro _; apply cB) rfl H3 (fun _ _ => rfl) fun g5 RZ nO => ?_
   have k10 := (((nO.rm s5).rm s1).rm s0)
   refine WH.next k10 <| O1 4 Y <| ev (Ev.aj gV Y (nO.x s1) Y) ?_
   exact Kj hS1 k10 ⟨g5, Y, nO⟩ Y
 rintro _ TM ⟨o9, cj2, rfl, vW⟩
 refine rg <| aR Y <| dn ?_
 refine WP.ret (aA.aD Y Y Y ?_)
 have H4 := ((vW.rm s4).rm s3)
 have hcy := MH (c := c) (fr := fr) (dM := dM) (u := now + aY) tX
 exact ⟨by rw [hcy.1]; rfl, _, _, _, _, by rw [hcy.2.1, hcy.2.2 os]; exact (((H4.sel s1).sel s2).sel s2)⟩
end Go.Proofs.YtjcklpooaaaglaaGreat
set_option maxRecDepth 4000
set_option linter.all false
namespace Go.Proofs.YtjcklpooaaaglaaGreat
open Go.RowKit
def uV (ks aW : List AChunk) (ns : List ANode) (ah : List Int) (bE : Int) : Bool := moveB aW ns ah bE && gG ks (aV aW ns ah bE).aB
def zP (ls : List ALease) (ks aW : List AChunk) (ns : List ANode) (ah : List Int) (bE bg all u : Int) : List ALease := if uV ks aW ns ah bE = true then kG ls bg all (aL ks (aV aW ns ah bE).aB) (aV aW ns ah bE).dw (aV aW ns ah bE).To u else ls
def EX (ls : List ALease) (os : List AOrder) (ks aW : List AChunk) (ns : List ANode) (ah : List Int) (bE bg all u : Int) : List AOrder := if uV ks aW ns ah bE = true then mY ls os bg all (aL ks (aV aW ns ah bE).aB) (aV aW ns ah bE).dw (aV aW ns ah bE).To u else os
theorem zQ : dL Tryz.prog 81 5 14 := fun _ _ => by kernel_rfl
theorem xU : dL Tryz.prog 81 4 13 := fun _ _ => by kernel_rfl
theorem Z5 : aM Tryz.prog 89 := fun _ _ => by kernel_rfl
theorem HV : aM Tryz.prog 25 := fun _ _ => by kernel_rfl
theorem Jl : dL Tryz.prog 50 4 4 := fun _ _ => by kernel_rfl
theorem Z7 : aM Tryz.prog 87 := fun _ _ => by kernel_rfl
set_option maxHeartbeats 1000000 in
theorem Y5 {b w : World} {S : Nat → Prop} {F : List jP} {g : Nat} {v0 v2 v5 v6 v9 v16 : Value} {AL : an3} {cL : Nat} {ls : List ALease} {AO : an3} {cO : Nat} {os : List AOrder} {AN : an3} {cN : Nat} {ns : List ANode} {AK : an3} {cK : Nat} {ks : List AChunk} {AV : an3} {cV : Nat} {ah : List Int} {AS : an3} {cS : Nat} {aW : List AChunk} {bg all aY bE now : Int} (H0 : Hp b S w (dG g 81 [v0, .slice AL ls.length cL, v2, .slice AN ns.length cN, .slice AK ks.length cK, v5, v6, .int .i64 bg, .int .i64 all, v9, .int .i64 aY, .int .i64 bE, .int .i64 now, .slice AV ah.length cV, .slice AS aW.length cS, .slice AO os.length cO, v16] :: aQ tLease 77 AL cL ls :: aQ tOrder 50 AO cO os :: fM tNode AN cN ns :: fM tChunk AK cK ks :: fM tInt AV cV ah :: fM tChunk AS cS aW :: F)) (hl : ls.length ≤ 100) (ho : os.length ≤ 100000) (hn : ns.length ≤ 1000) (hc : ks.length ≤ 1000) (hs : aW.length ≤ 1000) (hk : ∀ x ∈ ks, x.av.length ≤ 100000) (hh : ∀ x ∈ aW, x.av.length ≤ 100000) (hu : -1099511627776 ≤ now ∧ now ≤ 4398046511104 ∧ -1099511627776 ≤ aY ∧ aY ≤ 1099511627776) :
    bY Tryz.prog 42 #[.pointer (some ⟨g, 0, none⟩)] w fun v w' => v = .tuple #[] ∧ ∃ QC QD Hy Hz, Hp b S w' (dG g 81 [v0, .slice QC ((zP ls ks aW ns ah bE bg all (now + aY)).length) QD, v2, .slice AN ns.length cN, .slice AK ks.length cK, v5, v6, .int .i64 bg, .int .i64 all, v9, .int .i64 aY, .int .i64 bE, .int .i64 now, .slice AV ah.length cV, .slice AS aW.length cS, .slice Hy ((EX ls os ks aW ns ah bE bg all (now + aY)).length) Hz, v16] :: aQ tLease 77 QC QD (zP ls ks aW ns ah bE bg all (now + aY)) :: aQ tOrder 50 Hy Hz (EX ls os ks aW ns ah bE bg all (now + aY)) :: fM tNode AN cN ns :: fM tChunk AK cK ks :: fM tInt AV cV ah :: fM tChunk AS cS aW :: F) := by
 refine WP.enter Tryz.func42 Y Tryz.ntmps42 Y ?_
 refine He H0 (fun _ K => K) (fun l0 rk lJ wJ => ∃ (iZ : Nat), lJ = (2, .pointer (some ⟨iZ, 0, none⟩)) :: (3, .bool (moveB aW ns ah bE)) :: l0 ∧ Hp b S wJ (dG iZ 50 [.int .i64 ((aV aW ns ah bE).Kind), .int .i64 ((aV aW ns ah bE).aB), .int .i64 ((aV aW ns ah bE).ay), .int .u32 ((aV aW ns ah bE).Sum), .int .i64 ((aV aW ns ah bE).dw), .int .i64 ((aV aW ns ah bE).To), .int .i64 ((aV aW ns ah bE).dQ)] :: rk)) (fun hns H1 => ?_) ?_
 ·
  refine Tm 0 1 hns Y Y H1 <| Tn 1 3 hns Y (fun _ _ => Ev.nilCheck Y) H1 <| Tn 2 7 hns Y (fun _ _ => Ev.field (q := ⟨g, 14, none⟩) zQ Y Y) H1 ?_
  refine Tn 3 15 hns Y (fun _ hK => Ev.aj nM Y (hK.x s0) Y) H1 <| Tm 4 31 hns Y Y H1 <| Tn 5 63 hns Y (fun _ _ => Ev.nilCheck Y) H1 <| Tn 6 127 hns Y (fun _ _ => Ev.field (q := ⟨g, 3, none⟩) uU Y Y) H1 ?_
  refine Tn 7 255 hns Y (fun _ _ => Ev.field (q := ⟨g, 3, none⟩) oq Y Y) H1 <| Tn 8 511 hns Y (fun _ hK => Ev.aj lS Y (hK.x s0) Y) H1 ?_
  refine Tm 9 1023 hns Y Y H1 <| Tn 10 2047 hns Y (fun _ _ => Ev.nilCheck Y) H1 <| Tn 11 4095 hns Y (fun _ _ => Ev.field (q := ⟨g, 13, none⟩) xU Y Y) H1 ?_
  refine Tn 12 8191 hns Y (fun _ hK => Ev.aj gK Y (hK.x s0) Y) H1 <| Tm 13 16383 hns Y Y H1 <| Tn 14 32767 hns Y (fun _ _ => Ev.nilCheck Y) H1 ?_
  refine Tn 15 65535 hns Y (fun _ _ => Ev.field (q := ⟨g, 6, none⟩) rW Y Y) H1 <| Tn 16 131071 hns Y (fun _ _ => Ev.field (q := ⟨g, 11, none⟩) Dc Y Y) H1 ?_
  refine Tn 17 262143 hns Y (fun _ hK => Ev.aj bf Y (hK.x s0) Y) H1 ?_
  refine Jn H1 (fun l0 rk lJ wJ => ∃ (g1 : Nat), lJ = (2, .pointer (some ⟨g1, 0, none⟩)) :: (27, .bool (moveB aW ns ah bE)) :: l0 ∧ Hp b S wJ (dG g1 50 [.int .i64 ((aV aW ns ah bE).Kind), .int .i64 ((aV aW ns ah bE).aB), .int .i64 ((aV aW ns ah bE).ay), .int .u32 ((aV aW ns ah bE).Sum), .int .i64 ((aV aW ns ah bE).dw), .int .i64 ((aV aW ns ah bE).To), .int .i64 ((aV aW ns ah bE).dQ)] :: rk)) 1 16777215 ?_ fun hS1 => ?_
  ·
   rintro _ w7 ⟨g1, rfl, K7⟩
   have k5 := (K7.rm s0)
   refine Ta 24 33554431 hns Y Y k5 ?_
   exact Dn ⟨g1, Y, K7⟩ Y
  refine O2 18 22 Y Y ?_ ?_
  ·
   refine C0 H1 Y Y Y Z5 (Qg _ (H1.s s6).any (H1.s s3).any (H1.s s5).any bE (by omega) (by omega) hh) fun w8 K8 => ?_
   refine WH.next K8 <| Tm 19 1048575 hns Y Y K8 <| Tn 20 2097151 hns Y (fun _ _ => Ev.extract (vs := [.agg #[.int .i64 ((aV aW ns ah bE).Kind), .int .i64 ((aV aW ns ah bE).aB), .int .i64 ((aV aW ns ah bE).ay), .int .u32 ((aV aW ns ah bE).Sum), .int .i64 ((aV aW ns ah bE).dw), .int .i64 ((aV aW ns ah bE).To), .int .i64 ((aV aW ns ah bE).dQ)], .bool (moveB aW ns ah bE)]) Y Y) K8 ?_
   refine Tn 21 4194303 hns Y (fun _ _ => Ev.extract (vs := [.agg #[.int .i64 ((aV aW ns ah bE).Kind), .int .i64 ((aV aW ns ah bE).aB), .int .i64 ((aV aW ns ah bE).ay), .int .u32 ((aV aW ns ah bE).Sum), .int .i64 ((aV aW ns ah bE).dw), .int .i64 ((aV aW ns ah bE).To), .int .i64 ((aV aW ns ah bE).dQ)], .bool (moveB aW ns ah bE)]) Y Y) K8 ?_
   refine O1 22 Y ?_
   refine al jM Y K8 fun g3 w9 K9 => ?_
   have k6 := (K9.rm s0)
   refine WH.next k6 <| O1 23 Y ?_
   refine iW Y Y Y gW K9 s0 Y Y fun J8 K10 => ?_
   have k7 := (K10.rm s0)
   exact Kj hS1 k7 ⟨g3, Y, K10⟩ Y
  ·
   refine al jM Y H1 fun g4 Om qb => ?_
   have k8 := (qb.rm s0)
   refine WH.next k8 <| O1 18 Y ?_
   refine C0 qb Y Y Y Z5 (Qg _ (qb.s s7).any (qb.s s4).any (qb.s s6).any bE (by omega) (by omega) hh) fun Le oH => ?_
   have k9 := (oH.rm s0)
   refine WH.next k9 <| Tm 19 5242879 hns Y Y k9 <| Tn 20 6291455 hns Y (fun _ _ => Ev.extract (vs := [.agg #[.int .i64 ((aV aW ns ah bE).Kind), .int .i64 ((aV aW ns ah bE).aB), .int .i64 ((aV aW ns ah bE).ay), .int .u32 ((aV aW ns ah bE).Sum), .int .i64 ((aV aW ns ah bE).dw), .int .i64 ((aV aW ns ah bE).To), .int .i64 ((aV aW ns ah bE).dQ)], .bool (moveB aW ns ah bE)]) Y Y) k9 ?_
   refine Tn 21 8388607 hns Y (fun _ _ => Ev.extract (vs := [.agg #[.int .i64 ((aV aW ns ah bE).Kind), .int .i64 ((aV aW ns ah bE).aB), .int .i64 ((aV aW ns ah bE).ay), .int .u32 ((aV aW ns ah bE).Sum), .int .i64 ((aV aW ns ah bE).dw), .int .i64 ((aV aW ns ah bE).To), .int .i64 ((aV aW ns ah bE).dQ)], .bool (moveB aW ns ah bE)]) Y Y) k9 ?_
   refine O1 23 Y ?_
   refine iW Y Y Y gW oH s0 Y Y fun RY sP => ?_
   have k10 := (sP.rm s0)
   exact Kj hS1 k10 ⟨g4, Y, sP⟩ Y
 rintro _ RZ ⟨iZ, rfl, nO⟩
 refine He nO (fun _ K => K) (fun l0 rk lJ wJ => ∃ (Cb : Nat) (jw : an3) (jy : Nat), lJ = (4, .pointer (some ⟨Cb, 0, none⟩)) :: (5, .bool (gG ks ((aV aW ns ah bE).aB))) :: l0 ∧ Hp b S wJ (dG Cb 53 [.int .i64 ((aL ks ((aV aW ns ah bE).aB)).ID), .int .i64 ((aL ks ((aV aW ns ah bE).aB)).ay), .int .u32 ((aL ks ((aV aW ns ah bE).aB)).Sum), .slice jw (((aL ks ((aV aW ns ah bE).aB)).av).length) jy] :: fM tInt jw jy ((aL ks ((aV aW ns ah bE).aB)).av) :: rk)) (fun hns H2 => ?_) ?_
 ·
  refine Tm 0 1 hns Y Y H2 <| Tn 1 3 hns Y (fun _ _ => Ev.nilCheck Y) H2 <| Tn 2 7 hns Y (fun _ _ => Ev.field (q := ⟨g, 3, none⟩) uU Y Y) H2 ?_
  refine Tn 3 15 hns Y (fun _ _ => Ev.field (q := ⟨g, 4, none⟩) mg Y Y) H2 <| Tn 4 31 hns Y (fun _ hK => Ev.aj nM Y (hK.x s1) Y) H2 ?_
  refine Tn 5 63 hns Y (fun _ _ => Ev.field (q := ⟨iZ, 1, none⟩) xK Y Y) H2 <| Tn 6 127 hns Y (fun _ hK => Ev.aj bf Y (hK.x s0) Y) H2 ?_
  refine Jn H2 (fun l0 rk lJ wJ => ∃ (g5 : Nat) (Df : an3) (Dh : Nat), lJ = (4, .pointer (some ⟨g5, 0, none⟩)) :: (38, .bool (gG ks ((aV aW ns ah bE).aB))) :: l0 ∧ Hp b S wJ (dG g5 53 [.int .i64 ((aL ks ((aV aW ns ah bE).aB)).ID), .int .i64 ((aL ks ((aV aW ns ah bE).aB)).ay), .int .u32 ((aL ks ((aV aW ns ah bE).aB)).Sum), .slice Df (((aL ks ((aV aW ns ah bE).aB)).av).length) Dh] :: fM tInt Df Dh ((aL ks ((aV aW ns ah bE).aB)).av) :: rk)) 1 8191 ?_ fun hS2 => ?_
  ·
   rintro _ YR ⟨g5, Df, Dh, rfl, sJ⟩
   have k16 := ((sJ.rm s1).rm s0)
   refine Ta 13 16383 hns Y Y k16 ?_
   exact Dn ⟨g5, Df, Dh, Y, sJ⟩ Y
  refine O2 7 11 Y Y ?_ ?_
  ·
   refine WL.call Y Y Y HV (find_ok _ (H2.s s5) ((aV aW ns ah bE).aB) (by omega) hk) Y ?_
   rintro _ ZL ⟨Jm, Jo, rfl, h22⟩
   have yO := H2.c1 h22
   have OP := (yO.s s0).aN
   have k17 := (yO.rm s0)
   refine WH.next k17 <| Tm 8 511 hns Y Y k17 <| Tn 9 1023 hns Y (fun _ _ => Ev.extract (vs := [.agg #[.int .i64 ((aL ks ((aV aW ns ah bE).aB)).ID), .int .i64 ((aL ks ((aV aW ns ah bE).aB)).ay), .int .u32 ((aL ks ((aV aW ns ah bE).aB)).Sum), .slice Jm (((aL ks ((aV aW ns ah bE).aB)).av).length) Jo], .bool (gG ks ((aV aW ns ah bE).aB))]) Y Y) k17 ?_
   refine Tn 10 2047 hns Y (fun _ _ => Ev.extract (vs := [.agg #[.int .i64 ((aL ks ((aV aW ns ah bE).aB)).ID), .int .i64 ((aL ks ((aV aW ns ah bE).aB)).ay), .int .u32 ((aL ks ((aV aW ns ah bE).aB)).Sum), .slice Jm (((aL ks ((aV aW ns ah bE).aB)).av).length) Jo], .bool (gG ks ((aV aW ns ah bE).aB))]) Y Y) k17 ?_
   refine O1 11 Y ?_
   refine al iI Y yO fun g7 w23 Ag => ?_
   have k18 := ((Ag.rm s1).rm s0)
   refine WH.next k18 <| O1 12 Y ?_
   refine iW Y Y Y gu Ag s0 Y Y fun w24 yt => ?_
   have k19 := ((yt.rm s1).rm s0)
   exact Kj hS2 k19 ⟨g7, Jm, Jo, Y, yt⟩ Y
  ·
   refine al iI Y H2 fun g8 w25 yC => ?_
   have k20 := (yC.rm s0)
   refine WH.next k20 <| O1 7 Y <| WL.call Y Y Y HV (find_ok _ (yC.s s6) ((aV aW ns ah bE).aB) (by omega) hk) Y ?_
   rintro _ w26 ⟨uW, uX, rfl, h26⟩
   have y8 := yC.c1 h26
   have Wh := (y8.s s0).aN
   have k21 := ((y8.rm s1).rm s0)
   refine WH.next k21 <| Tm 8 2559 hns Y Y k21 <| Tn 9 3071 hns Y (fun _ _ => Ev.extract (vs := [.agg #[.int .i64 ((aL ks ((aV aW ns ah bE).aB)).ID), .int .i64 ((aL ks ((aV aW ns ah bE).aB)).ay), .int .u32 ((aL ks ((aV aW ns ah bE).aB)).Sum), .slice uW (((aL ks ((aV aW ns ah bE).aB)).av).length) uX], .bool (gG ks ((aV aW ns ah bE).aB))]) Y Y) k21 ?_
   refine Tn 10 4095 hns Y (fun _ _ => Ev.extract (vs := [.agg #[.int .i64 ((aL ks ((aV aW ns ah bE).aB)).ID), .int .i64 ((aL ks ((aV aW ns ah bE).aB)).ay), .int .u32 ((aL ks ((aV aW ns ah bE).aB)).Sum), .slice uW (((aL ks ((aV aW ns ah bE).aB)).av).length) uX], .bool (gG ks ((aV aW ns ah bE).aB))]) Y Y) k21 ?_
   refine O1 12 Y ?_
   refine iW Y Y Y gu y8 s1 Y Y fun w27 zA => ?_
   have k22 := ((zA.rm s1).rm s0)
   exact Kj hS2 k22 ⟨g8, uW, uX, Y, zA⟩ Y
 rintro _ ZM ⟨Cb, jw, jy, rfl, yP⟩
 refine rg <| mv Y <| mv Y ?_
 refine WL.dR 2 42 ((moveB aW ns ah bE) && (gG ks ((aV aW ns ah bE).aB))) ?_ ?_
 ·
  cases I9 : (moveB aW ns ah bE) with
  | true =>
   refine WL.bF Y (Ev.move Y) Y <| ev (Ev.bq Y Y) ?_
   exact WL.bM Y
  | false =>
   refine WL.pass Y Y Y <| ev (Ev.bn Y Y) ?_
   exact WL.bM Y
 refine dn ?_
 refine WP.aG Y (fun Jp => ?_) (fun Jp => ?_)
 ·
  refine eP <| mv Y <| ev (Ev.bX gQ Y Y (yP.x s0)) <| ev (Ev.field (q := ⟨iZ, 4, none⟩) Jl Y Y) <| ev (Ev.aj bf Y (yP.x s2) Y) <| ev (Ev.field (q := ⟨iZ, 5, none⟩) zM Y Y) <| ev (Ev.aj bf Y (yP.x s2) Y) <| WL.call Y Y Y Z7 (EW ((((((yP.sel s2).sel s2).sel s2).sel s5).sel s5).sel s5) (aL ks ((aV aW ns ah bE).aB)) ((aV aW ns ah bE).dw) ((aV aW ns ah bE).To) (by omega) (by omega) (by omega)) Y ?_
  rintro _ ZN ⟨rfl, Jq, Jr, OV, OW, Bd⟩
  refine eT ?_
  refine aA.nL (aA.aD Y Y Y ?_)
  have H3 := (((Bd.rm s5).rm s4).rm s3)
  exact ⟨Y, _, _, _, _, by unfold zP EX; first | (rw [if_pos (show uV ks aW ns ah bE = true from Jp), if_pos (show uV ks aW ns ah bE = true from Jp)]; exact H3) | (rw [if_neg (show ¬ uV ks aW ns ah bE = true by rw [show uV ks aW ns ah bE = false from Jp]; decide), if_neg (show ¬ uV ks aW ns ah bE = true by rw [show uV ks aW ns ah bE = false from Jp]; decide)]; exact H3)⟩
 refine WP.skip (aA.nL (aA.aD Y Y Y ?_))
 have H4 := (((yP.rm s2).rm s1).rm s0)
 exact ⟨Y, _, _, _, _, by unfold zP EX; first | (rw [if_pos (show uV ks aW ns ah bE = true from Jp), if_pos (show uV ks aW ns ah bE = true from Jp)]; exact H4) | (rw [if_neg (show ¬ uV ks aW ns ah bE = true by rw [show uV ks aW ns ah bE = false from Jp]; decide), if_neg (show ¬ uV ks aW ns ah bE = true by rw [show uV ks aW ns ah bE = false from Jp]; decide)]; exact H4)⟩
end Go.Proofs.YtjcklpooaaaglaaGreat
