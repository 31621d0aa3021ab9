/- Texts that the statement needs, with short names. -/
import Derived.Test.YtjcklpooaaaglaaGreatvG10
set_option maxRecDepth 4000
set_option linter.all false
namespace Go.Proofs.YtjcklpooaaaglaaGreat
open Go.RowKit
def uf (m : AMeta) : Bool := (yc m.bC && decide (m.bA.length ≤ 60)) && decide (m.dS.length ≤ 60)
theorem WM (m : AMeta) : ((yc m.bC && decide ((m.bA.length : Int) ≤ 60)) && decide ((m.dS.length : Int) ≤ 60)) = uf m := by
  unfold uf
  have e1 : decide ((m.bA.length : Int) ≤ 60) = decide (m.bA.length ≤ 60) := by rw [decide_eq_decide]; omega
  have e2 : decide ((m.dS.length : Int) ≤ 60) = decide (m.dS.length ≤ 60) := by rw [decide_eq_decide]; omega
  rw [e1, e2]
theorem WO {m : AMeta} (h : uf m = true) : m.bA.length ≤ 60 ∧ m.bC.length ≤ 60 ∧ ∀ x ∈ m.bC, x.av.length ≤ 30 := by
  simp only [uf, Bool.and_eq_true, decide_eq_true_eq] at h
  exact ⟨h.1.2, abe h.1.1⟩
def vN (s : ASoft) : Bool := (decide (s.bU.length ≤ 50) && decide (s.bI.length ≤ 50)) && decide (s.bH.length ≤ 50)
theorem WR (s : ASoft) : ((decide ((s.bU.length : Int) ≤ 50) && decide ((s.bI.length : Int) ≤ 50)) && decide ((s.bH.length : Int) ≤ 50)) = vN s := by
  unfold vN
  have e1 : decide ((s.bU.length : Int) ≤ 50) = decide (s.bU.length ≤ 50) := by rw [decide_eq_decide]; omega
  have e2 : decide ((s.bI.length : Int) ≤ 50) = decide (s.bI.length ≤ 50) := by rw [decide_eq_decide]; omega
  have e3 : decide ((s.bH.length : Int) ≤ 50) = decide (s.bH.length ≤ 50) := by rw [decide_eq_decide]; omega
  rw [e1, e2, e3]
theorem WS {s : ASoft} (h : vN s = true) : s.bU.length ≤ 50 ∧ s.bI.length ≤ 50 ∧ s.bH.length ≤ 50 := by
  simp only [vN, Bool.and_eq_true, decide_eq_true_eq] at h; omega
abbrev HZ : ARules := ⟨10, 2, 4, 2, 5, 1⟩
abbrev awN : List ANode := [⟨1, 1, 4, 0⟩, ⟨2, 1, 4, 0⟩, ⟨3, 2, 4, 0⟩]
abbrev awS : ASoft := ⟨[⟨1, 0⟩, ⟨2, 0⟩, ⟨3, 0⟩], [], []⟩
theorem aw1 : jH ⟨awN, [⟨1, 1, 0, [1]⟩], []⟩ awS HZ 5 = [⟨0, 1, 1, 0, 1, 3, 10⟩] := by decide +kernel
theorem aw2 : jH ⟨awN, [⟨1, 1, 0, [1, 2, 3]⟩], []⟩ awS HZ 5 = [⟨1, 1, 1, 0, 2, 2, 10⟩] := by decide +kernel
theorem aw3 : (kN ⟨awN, [⟨1, 1, 0, [1, 2, 3]⟩], []⟩ awS HZ 5).length = 1 := by decide +kernel
theorem SS (c : AChunk) : vJ [] c = c := by
  unfold vJ
  rw [List.filter_eq_self.2 (fun x _ => by simp [dI])]
theorem SV (l : List AChunk) : iN l [] = l := by
  unfold iN; rw [show vJ [] = id from funext SS, List.map_id]
theorem afR : aM Tryz.prog 35 := fun _ _ => by kernel_rfl
theorem Y9 : dL Tryz.prog 26 2 2 := fun _ _ => by kernel_rfl
theorem afS : kH Tryz.prog 24 := fun _ => by kernel_rfl
theorem Za : ∀ w, (zeroValue 33).run Tryz.prog w = .ok (.agg #[.int .i64 0, .int .i64 0, .int .i64 0, .int .i64 0, .int .i64 0, .int .i64 0]) w := fun _ => by kernel_rfl
theorem ug (a0 : Int) (a1 : Int) (a2 : Int) (a3 : Int) (a4 : Int) (a5 : Int) : Tryz.prog.built 33 [(0, .int .i64 a0), (1, .int .i64 a1), (2, .int .i64 a2), (3, .int .i64 a3), (4, .int .i64 a4), (5, .int .i64 a5)] = some #[.int .i64 a0, .int .i64 a1, .int .i64 a2, .int .i64 a3, .int .i64 a4, .int .i64 a5] := by kernel_rfl
theorem qQ (a0 : Int) (a1 : Int) (a2 : Int) : Tryz.prog.built 63 [(0, .int .i64 a0), (1, .int .i64 a1), (2, .int .i64 a2)] = some #[.int .i64 a0, .int .i64 a1, .int .i64 a2, .int .i64 0] := by kernel_rfl
theorem wX (a0 : Int) (a1 : Int) (a2 : Int) (a3 : Int) (a4 : Int) (a5 : Int) (a6 : Int) (a7 : Int) (a8 : Int) (a9 : Int) (a10 : Int) (a11 : Int) : ∀ w, (Instr.buildSlice 22 3 (List.toArray [(0, .agg #[.int .i64 a0, .int .i64 a1, .int .i64 a2, .int .i64 a3]), (1, .agg #[.int .i64 a4, .int .i64 a5, .int .i64 a6, .int .i64 a7]), (2, .agg #[.int .i64 a8, .int .i64 a9, .int .i64 a10, .int .i64 a11])])).run Tryz.prog w = .ok (.slice (some ⟨w.heap.size, 0, none⟩) 3 3) (w.alloc (.cells (List.toArray [.int .i64 a0, .int .i64 a1, .int .i64 a2, .int .i64 a3, .int .i64 a4, .int .i64 a5, .int .i64 a6, .int .i64 a7, .int .i64 a8, .int .i64 a9, .int .i64 a10, .int .i64 a11]) 63)) := fun _ => by kernel_rfl
theorem E9 (a0 : Int) : Tryz.prog.built 72 [(0, .int .i64 a0)] = some #[.int .i64 a0, .int .i64 0] := by kernel_rfl
theorem Fa (a0 : Int) (a1 : Int) (a2 : Int) (a3 : Int) (a4 : Int) (a5 : Int) : ∀ w, (Instr.buildSlice 27 3 (List.toArray [(0, .agg #[.int .i64 a0, .int .i64 a1]), (1, .agg #[.int .i64 a2, .int .i64 a3]), (2, .agg #[.int .i64 a4, .int .i64 a5])])).run Tryz.prog w = .ok (.slice (some ⟨w.heap.size, 0, none⟩) 3 3) (w.alloc (.cells (List.toArray [.int .i64 a0, .int .i64 a1, .int .i64 a2, .int .i64 a3, .int .i64 a4, .int .i64 a5]) 72)) := fun _ => by kernel_rfl
theorem wY (a0 : Int) (a1 : Int) (a2 : an3) (a2n a2c : Nat) : Tryz.prog.built 53 [(0, .int .i64 a0), (1, .int .i64 a1), (3, .slice a2 a2n a2c)] = some #[.int .i64 a0, .int .i64 a1, .int .u32 0, .slice a2 a2n a2c] := by kernel_rfl
theorem vv (a0 : Int) (a1 : Int) (a2 : Int) (a3 : an3) (a3n a3c : Nat) : ∀ w, (Instr.buildSlice 23 1 (List.toArray [(0, .agg #[.int .i64 a0, .int .i64 a1, .int .u32 a2, .slice a3 a3n a3c])])).run Tryz.prog w = .ok (.slice (some ⟨w.heap.size, 0, none⟩) 1 1) (w.alloc (.cells (List.toArray [.int .i64 a0, .int .i64 a1, .int .u32 a2, .slice a3 a3n a3c]) 53)) := fun _ => by kernel_rfl
theorem Cj (a0 : an3) (Wj Wm : Nat) (a1 : an3) (a1n a1c : Nat) : Tryz.prog.built 26 [(0, .slice a0 Wj Wm), (1, .slice a1 a1n a1c)] = some #[.slice a0 Wj Wm, .slice a1 a1n a1c, .slice none 0 0] := by kernel_rfl
theorem M9 (a0 : an3) (Wj Wm : Nat) : Tryz.prog.built 31 [(0, .slice a0 Wj Wm)] = some #[.slice a0 Wj Wm, .slice none 0 0, .slice none 0 0] := by kernel_rfl
theorem aax : aM Tryz.prog 34 := fun _ _ => by kernel_rfl
theorem WT : aM Tryz.prog 13 := fun _ _ => by kernel_rfl
theorem QF : dL Tryz.prog 50 0 0 := fun _ _ => by kernel_rfl
theorem afT : aM Tryz.prog 10 := fun _ _ => by kernel_rfl
theorem afU : aM Tryz.prog 11 := fun _ _ => by kernel_rfl
theorem afV : aM Tryz.prog 12 := fun _ _ => by kernel_rfl
theorem acZ {S0 : Nat → Prop} (w : World) {d9 : an3} {eu : Nat} {l : List AChunk} (dN : Sl tChunk S0 w d9 eu l) :
    bY Tryz.prog 35 #[.slice d9 l.length eu] w fun v w' => v = .bool (yc l) ∧ Hp w S0 w' [] := by
 refine WP.enter Tryz.func35 Y Tryz.ntmps35 Y ?_
 have H0 := Hp.init w S0
 have iJ := dN.aN
 refine rg <| aR Y <| dn <| WP.seq <| rg <| mv Y <| ev (Ev.len Tryz.underlying23 Y) <| ev (Ev.gtr Y Y) <| dn ?_
 refine WP.aG Y (fun hc6 => ?_) (fun hc6 => ?_)
 ·
  replace hc6 := of_decide_eq_true hc6
  refine rg <| aR Y <| dn ?_
  refine WP.ret (aA.aP (aA.aD Y Y Y ?_))
  have hq1 : (false : Bool) = (yc l) := by unfold yc; rw [decide_eq_false (by omega)]; rfl
  exact ⟨by rw [← hq1] <;> rfl, H0⟩
 replace hc6 := of_decide_eq_false hc6
 refine WP.skip (aA.norm ?_)
 refine WP.seq <| rg <| aR Y <| dn <| WP.block <| Lp H0 (fun l0 rk mJ lJ wJ => ∃ (k : Nat), lJ = (3, .int .i64 ((k : Nat) : Int)) :: l0 ∧ mJ = l.length - k ∧ k ≤ l.length ∧ (∀ y ∈ l.take k, (fun (c : AChunk) => decide (c.av.length ≤ 30)) y = true) ∧ Hp w S0 wJ rk) ⟨0, Y, Y, Nat.zero_le _, by simp, H0⟩ rfl ?_
 rintro _ _ w1 ⟨k, rfl, rfl, hk, hall, K1⟩
 refine WP.seq <| rg <| mv Y <| mv Y <| ev (Ev.len Tryz.underlying23 Y) <| ev (Ev.lss Y Y) <| dn ?_
 refine WP.aG Y (fun iR => ?_) (fun iR => ?_)
 ·
  replace iR := of_decide_eq_true iR
  refine WP.skip (aA.norm ?_)
  refine WP.seq <| WP.block <| rg <| mv Y <| mv Y ?_
  obtain ⟨x1, hx1⟩ := get_some (xs := l) (i := k) (by omega)
  refine ev (Ev.index (i := k) Tryz.underlying23 gu Y Y Y (aC hx1) ((K1.a dN).some_ hx1)) <| ev (Ev.field fT Y (bJ _ _ _)) ?_
  obtain ⟨B1, d1, kL, hi1⟩ := AChunk.op (dN.row hx1)
  refine ev (Ev.aZ gK Y ((fun j u hu => K1.ext.cell (kL j u hu)) 3 _ Y)) <| ev (Ev.len Tryz.underlying51 Y) <| ev (Ev.gtr Y Y) <| dn ?_
  refine WP.aG Y (fun hc19 => ?_) (fun hc19 => ?_)
  ·
   replace hc19 := of_decide_eq_true hc19
   refine rg <| aR Y <| dn ?_
   refine WP.ret (aA.bW (aA.aP (aA.aP (aA.bW (aA.aP (aA.aD Y Y Y ?_))))))
   have hq2 : (false : Bool) = (yc l) := by unfold yc; rw [show l.all (fun c => decide (c.av.length ≤ 30)) = false from by rw [List.all_eq_false]; exact ⟨x1, bV hx1, by simp; omega⟩]; simp
   exact ⟨by rw [← hq2] <;> rfl, K1⟩
  replace hc19 := of_decide_eq_false hc19
  refine WP.skip (aA.aS (aA.norm ?_))
  refine eP <| mv Y <| ev (Ev.add Y Y (eX.mk (by omega) (by omega))) <| aR Y <| eT ?_
  exact aA.ag ⟨(k + 1), Y, Y, by omega, by exact gP (q := fun (c : AChunk) => decide (c.av.length ≤ 30) = true) hall hx1 (by simp; omega), K1⟩ rfl (by omega)
 replace iR := of_decide_eq_false iR
 refine WP.exit (aA.aF (aA.aF (aA.bS (aA.norm ?_))))
 refine rg <| aR Y <| dn ?_
 refine WP.ret (aA.aD Y Y Y ?_)
 have hq3 : (true : Bool) = (yc l) := by rw [List.take_of_length_le (by omega)] at hall; unfold yc; rw [List.all_eq_true.2 hall, decide_eq_true (by omega)]; rfl
 exact ⟨by rw [← hq3] <;> rfl, K1⟩
theorem WU {S0 : Nat → Prop} (w : World) (m : AMeta) {ku : an3} {kC : Nat} (Gi : Sl tNode S0 w ku kC m.bA) {kD : an3} {kE : Nat} (yT : Sl tChunk S0 w kD kE m.bC) {lH : an3} {lI : Nat} (SN : Sl tSession S0 w lH lI m.dS) :
    bY Tryz.prog 11 #[.agg #[.slice ku m.bA.length kC, .slice kD m.bC.length kE, .slice lH m.dS.length lI]] w fun v w' => v = .bool (uf m) ∧ Hp w S0 w' [] := by
 refine WP.enter Tryz.func11 Y Tryz.ntmps11 Y ?_
 have H0 := Hp.init w S0
 refine rg ?_
 refine bx Y Y H0 fun g1 w1 K1 => ?_
 refine aR Y <| dn <| rg <| ev (Ev.field (q := ⟨g1, 1, none⟩) mg Y Y) <| ev (Ev.aj nM Y (K1.x s0) Y) ?_
 refine C0 K1 Y Y Y afR (acZ _ (K1.a yT).any) fun w2 K2 => ?_
 refine aR Y <| dn <| rg <| mv Y <| mv Y ?_
 refine WL.dR 5 13 ((yc m.bC) && (decide (((m.bA.length : Nat) : Int) ≤ 60))) ?_ ?_
 ·
  cases hb8 : yc m.bC with
  | true =>
   refine WL.bF Y (Ev.field (q := ⟨g1, 0, none⟩) oq Y Y) Y <| WL.bF Y (Ev.aj lS Y (K2.x s0) Y) Y <| WL.bF Y (Ev.len Tryz.underlying22 Y) Y ?_
   refine WL.bF Y (Ev.leq Y Y) Y <| ev (Ev.bq Y Y) ?_
   exact WL.bM Y
  | false =>
   refine WL.pass Y Y Y <| WL.pass Y Y Y <| WL.pass Y Y Y <| WL.pass Y Y Y <| ev (Ev.bn Y Y) ?_
   exact WL.bM Y
 refine mv Y ?_
 refine WL.dR 5 19 (((yc m.bC) && (decide (((m.bA.length : Nat) : Int) ≤ 60))) && (decide (((m.dS.length : Nat) : Int) ≤ 60))) ?_ ?_
 ·
  cases aeP : ((yc m.bC) && (decide (((m.bA.length : Nat) : Int) ≤ 60))) with
  | true =>
   have afW := aeP
   try simp only [Bool.and_eq_true, Bool.and_eq_false_imp, decide_eq_true_eq, decide_eq_false_iff_not] at afW
   refine WL.bF Y (Ev.field (q := ⟨g1, 2, none⟩) Y9 Y Y) Y <| WL.bF Y (Ev.aj afS Y (K2.x s0) Y) Y <| WL.bF Y (Ev.len Tryz.underlying24 Y) Y ?_
   refine WL.bF Y (Ev.leq Y Y) Y <| ev (Ev.bq Y Y) ?_
   exact WL.bM Y
  | false =>
   refine WL.pass Y Y Y <| WL.pass Y Y Y <| WL.pass Y Y Y <| WL.pass Y Y Y <| ev (Ev.bn Y Y) ?_
   exact WL.bM Y
 refine aR Y <| dn ?_
 refine WP.ret (aA.aD Y Y Y ?_)
 have hq1 : ((((yc m.bC) && (decide (((m.bA.length : Nat) : Int) ≤ 60))) && (decide (((m.dS.length : Nat) : Int) ≤ 60))) : Bool) = (uf m) := by exact WM m
 exact ⟨by rw [hq1] <;> rfl, (K2.rm s0)⟩
theorem WV {S0 : Nat → Prop} (w : World) (s : ASoft) {qN : an3} {qO : Nat} (Bv : Sl tBeat S0 w qN qO s.bU) {uQ : an3} {uR : Nat} (Bw : Sl tLease S0 w uQ uR s.bI) {uS : an3} {uT : Nat} (vT : Sl tOrder S0 w uS uT s.bH) :
    bY Tryz.prog 12 #[.agg #[.slice qN s.bU.length qO, .slice uQ s.bI.length uR, .slice uS s.bH.length uT]] w fun v w' => v = .bool (vN s) ∧ Hp w S0 w' [] := by
 refine WP.enter Tryz.func12 Y Tryz.ntmps12 Y ?_
 have H0 := Hp.init w S0
 refine rg ?_
 refine bx Y Y H0 fun g1 w1 K1 => ?_
 refine aR Y <| dn <| rg <| ev (Ev.field (q := ⟨g1, 0, none⟩) qh Y Y) <| ev (Ev.aj zK Y (K1.x s0) Y) <| ev (Ev.len Tryz.underlying27 Y) <| ev (Ev.leq Y Y) <| mv Y ?_
 refine WL.dR 5 12 ((decide (((s.bU.length : Nat) : Int) ≤ 50)) && (decide (((s.bI.length : Nat) : Int) ≤ 50))) ?_ ?_
 ·
  cases hb7 : decide (((s.bU.length : Nat) : Int) ≤ 50) with
  | true =>
   have abw := of_decide_eq_true hb7
   refine WL.bF Y (Ev.field (q := ⟨g1, 1, none⟩) iV Y Y) Y <| WL.bF Y (Ev.aj oo Y (K1.x s0) Y) Y <| WL.bF Y (Ev.len Tryz.underlying28 Y) Y ?_
   refine WL.bF Y (Ev.leq Y Y) Y <| ev (Ev.bq Y Y) ?_
   exact WL.bM Y
  | false =>
   refine WL.pass Y Y Y <| WL.pass Y Y Y <| WL.pass Y Y Y <| WL.pass Y Y Y <| ev (Ev.bn Y Y) ?_
   exact WL.bM Y
 refine mv Y ?_
 refine WL.dR 5 18 (((decide (((s.bU.length : Nat) : Int) ≤ 50)) && (decide (((s.bI.length : Nat) : Int) ≤ 50))) && (decide (((s.bH.length : Nat) : Int) ≤ 50))) ?_ ?_
 ·
  cases aes : ((decide (((s.bU.length : Nat) : Int) ≤ 50)) && (decide (((s.bI.length : Nat) : Int) ≤ 50))) with
  | true =>
   have afX := aes
   try simp only [Bool.and_eq_true, Bool.and_eq_false_imp, decide_eq_true_eq, decide_eq_false_iff_not] at afX
   refine WL.bF Y (Ev.field (q := ⟨g1, 2, none⟩) jc Y Y) Y <| WL.bF Y (Ev.aj gV Y (K1.x s0) Y) Y <| WL.bF Y (Ev.len Tryz.underlying29 Y) Y ?_
   refine WL.bF Y (Ev.leq Y Y) Y <| ev (Ev.bq Y Y) ?_
   exact WL.bM Y
  | false =>
   refine WL.pass Y Y Y <| WL.pass Y Y Y <| WL.pass Y Y Y <| WL.pass Y Y Y <| ev (Ev.bn Y Y) ?_
   exact WL.bM Y
 refine aR Y <| dn ?_
 refine WP.ret (aA.aD Y Y Y ?_)
 have hq1 : ((((decide (((s.bU.length : Nat) : Int) ≤ 50)) && (decide (((s.bI.length : Nat) : Int) ≤ 50))) && (decide (((s.bH.length : Nat) : Int) ≤ 50))) : Bool) = (vN s) := by exact WR s
 exact ⟨by rw [hq1] <;> rfl, (K1.rm s0)⟩
theorem Fb {S0 : Nat → Prop} (w : World)  :
    bY Tryz.prog 34 #[] w fun v w' => v = .agg #[.int .i64 HZ.eG, .int .i64 HZ.fU, .int .i64 HZ.All, .int .i64 HZ.gy, .int .i64 HZ.dW, .int .i64 HZ.aK] ∧ Hp w S0 w' [] := by
 refine WP.enter Tryz.func34 Y Tryz.ntmps34 Y ?_
 have H0 := Hp.init w S0
 refine rg ?_
 refine al Za Y H0 fun g1 w1 K1 => ?_
 refine dn <| rg <| ev (Ev.build (vs := [(0, .int .i64 10), (1, .int .i64 2), (2, .int .i64 4), (3, .int .i64 2), (4, .int .i64 5), (5, .int .i64 1)]) (cs := [.int .i64 10, .int .i64 2, .int .i64 4, .int .i64 2, .int .i64 5, .int .i64 1]) Y (by apply ug)) ?_
 refine iW Y Y Y aap K1 s0 Y Y fun w2 K2 => ?_
 refine dn ?_
 refine WP.ret (aA.oG Y ⟨_, _, Y, ⟨_, Y, eH (cs := [.int .i64 10, .int .i64 2, .int .i64 4, .int .i64 2, .int .i64 5, .int .i64 1]) zT Y (K2.x s0)⟩, Y⟩ ?_)
 have hq1 : ((⟨10, 2, 4, 2, 5, 1⟩ : ARules) : ARules) = HZ := by rfl
 have hq2 : (10 : Int) = HZ.eG := by rw [← hq1]
 have hq3 : (2 : Int) = HZ.fU := by rw [← hq1]
 have hq4 : (4 : Int) = HZ.All := by rw [← hq1]
 have kP : (2 : Int) = HZ.gy := by rw [← hq1]
 have ny : (5 : Int) = HZ.dW := by rw [← hq1]
 have kT : (1 : Int) = HZ.aK := by rw [← hq1]
 exact ⟨by rw [← hq2, ← hq3, ← hq4, ← kP, ← ny, ← kT] <;> rfl, (K2.rm s0)⟩
theorem O4 {S0 : Nat → Prop} (w : World)  :
    bY Tryz.prog 10 #[] w fun v w' => v = .bool true ∧ Hp w S0 w' [] := by
 refine WP.enter Tryz.func10 Y Tryz.ntmps10 Y ?_
 have H0 := Hp.init w S0
 refine rg <| aR Y <| dn <| rg <| ev (Ev.build (vs := [(0, .int .i64 1), (1, .int .i64 1), (2, .int .i64 4)]) (cs := [.int .i64 1, .int .i64 1, .int .i64 4, .int .i64 0]) Y (by apply qQ)) <| ev (Ev.build (vs := [(0, .int .i64 2), (1, .int .i64 1), (2, .int .i64 4)]) (cs := [.int .i64 2, .int .i64 1, .int .i64 4, .int .i64 0]) rfl (by apply qQ)) <| ev (Ev.build (vs := [(0, .int .i64 3), (1, .int .i64 2), (2, .int .i64 4)]) (cs := [.int .i64 3, .int .i64 2, .int .i64 4, .int .i64 0]) rfl (by apply qQ)) ?_
 refine X7 (τ := tNode) (xs := ([(⟨1, 1, 4, 0⟩ : ANode), (⟨2, 1, 4, 0⟩ : ANode), (⟨3, 2, 4, 0⟩ : ANode)] : List ANode)) (vs := [(0, .agg #[.int .i64 1, .int .i64 1, .int .i64 4, .int .i64 0]), (1, .agg #[.int .i64 2, .int .i64 1, .int .i64 4, .int .i64 0]), (2, .agg #[.int .i64 3, .int .i64 2, .int .i64 4, .int .i64 0])]) (css := [[.int .i64 1, .int .i64 1, .int .i64 4, .int .i64 0], [.int .i64 2, .int .i64 1, .int .i64 4, .int .i64 0], [.int .i64 3, .int .i64 2, .int .i64 4, .int .i64 0]]) Y (by intro _; apply wX) rfl rfl H0 (fun _ e => ⟨rfl, rfl, rfl, trivial⟩) fun g1 w1 K1 => ?_
 refine aR Y <| dn <| rg <| ev (Ev.build (vs := [(0, .int .i64 1)]) (cs := [.int .i64 1, .int .i64 0]) Y (by apply E9)) <| ev (Ev.build (vs := [(0, .int .i64 2)]) (cs := [.int .i64 2, .int .i64 0]) rfl (by apply E9)) <| ev (Ev.build (vs := [(0, .int .i64 3)]) (cs := [.int .i64 3, .int .i64 0]) rfl (by apply E9)) ?_
 refine X7 (τ := tBeat) (xs := ([(⟨1, 0⟩ : ABeat), (⟨2, 0⟩ : ABeat), (⟨3, 0⟩ : ABeat)] : List ABeat)) (vs := [(0, .agg #[.int .i64 1, .int .i64 0]), (1, .agg #[.int .i64 2, .int .i64 0]), (2, .agg #[.int .i64 3, .int .i64 0])]) (css := [[.int .i64 1, .int .i64 0], [.int .i64 2, .int .i64 0], [.int .i64 3, .int .i64 0]]) Y (by intro _; apply Fa) rfl rfl K1 (fun _ e => ⟨rfl, rfl, rfl, trivial⟩) fun g2 w2 K2 => ?_
 refine aR Y <| dn <| rg <| mv Y ?_
 refine ni (τ := tInt) (x := 1) Y (by intro _; apply jk) rfl K2 (fun _ _ => rfl) fun g3 w3 K3 => ?_
 refine ev (Ev.build (vs := [(0, .int .i64 1), (1, .int .i64 1), (3, .slice (some ⟨g3, 0, none⟩) (([1] : List Int).length) 1)]) (cs := [.int .i64 1, .int .i64 1, .int .u32 0, .slice (some ⟨g3, 0, none⟩) (([1] : List Int).length) 1]) Y (by apply wY)) ?_
 have H1 := K3.fz s0
 refine ni (τ := tChunk) (x := (⟨1, 1, 0, ([1] : List Int)⟩ : AChunk)) Y (by intro _; apply vv) rfl H1 (fun _ e => ⟨_, _, rfl, (H1.s s0).ext e⟩) fun g4 w4 K4 => ?_
 refine ev (Ev.build (vs := [(0, .slice (some ⟨g1, 0, none⟩) (([(⟨1, 1, 4, 0⟩ : ANode), (⟨2, 1, 4, 0⟩ : ANode), (⟨3, 2, 4, 0⟩ : ANode)] : List ANode).length) 3), (1, .slice (some ⟨g4, 0, none⟩) (([(⟨1, 1, 0, ([1] : List Int)⟩ : AChunk)] : List AChunk).length) 1)]) (cs := [.slice (some ⟨g1, 0, none⟩) (([(⟨1, 1, 4, 0⟩ : ANode), (⟨2, 1, 4, 0⟩ : ANode), (⟨3, 2, 4, 0⟩ : ANode)] : List ANode).length) 3, .slice (some ⟨g4, 0, none⟩) (([(⟨1, 1, 0, ([1] : List Int)⟩ : AChunk)] : List AChunk).length) 1, .slice none 0 0]) Y (by apply Cj)) ?_
 refine mv Y <| ev (Ev.build (vs := [(0, .slice (some ⟨g2, 0, none⟩) (([(⟨1, 0⟩ : ABeat), (⟨2, 0⟩ : ABeat), (⟨3, 0⟩ : ABeat)] : List ABeat).length) 3)]) (cs := [.slice (some ⟨g2, 0, none⟩) (([(⟨1, 0⟩ : ABeat), (⟨2, 0⟩ : ABeat), (⟨3, 0⟩ : ABeat)] : List ABeat).length) 3, .slice none 0 0, .slice none 0 0]) Y (by apply M9)) ?_
 refine C0 K4 Y Y Y aax (Fb (S0 := Any) _ ) fun w5 K5 => ?_
 refine WL.call Y Y Y WT (E8 _ (⟨([(⟨1, 1, 4, 0⟩ : ANode), (⟨2, 1, 4, 0⟩ : ANode), (⟨3, 2, 4, 0⟩ : ANode)] : List ANode), ([(⟨1, 1, 0, ([1] : List Int)⟩ : AChunk)] : List AChunk), []⟩ : AMeta) (K5.o s3) (K5.o s0) (Sl.none_ tSession Any _) (⟨([(⟨1, 0⟩ : ABeat), (⟨2, 0⟩ : ABeat), (⟨3, 0⟩ : ABeat)] : List ABeat), [], []⟩ : ASoft) (K5.o s2) (Sl.none_ tLease Any _) (Sl.none_ tOrder Any _) HZ 5 (by decide) (by decide) (by decide) (by decide) (by decide) (by decide)) Y ?_
 rintro _ w6 ⟨WW, WX, ai9, aja, ajb, ajc, Y3, Y4, anm, ano, rfl, h6⟩
 have K6 := K5.f5 h6
 have UJ := (K6.o s0).aN
 have afa := (K6.o s1).aN
 have ali := (K6.o s2).aN
 have alj := (K6.o s3).aN
 have alk := (K6.o s4).aN
 refine mv Y <| xt Y Y <| xt Y Y <| xt Y Y ?_
 refine al rR Y K6 fun g5 w7 K7 => ?_
 refine iW Y Y Y rT K7 s0 Y Y fun w8 K8 => ?_
 refine aR Y <| aR Y <| dn <| rg <| mv Y ?_
 refine X7 (τ := tInt) (xs := ([1, 2, 3] : List Int)) (vs := [(0, .int .i64 1), (1, .int .i64 2), (2, .int .i64 3)]) (css := [[.int .i64 1], [.int .i64 2], [.int .i64 3]]) Y (by intro _; apply BR) rfl rfl K8 (fun _ e => ⟨rfl, rfl, rfl, trivial⟩) fun g6 w9 K9 => ?_
 refine ev (Ev.build (vs := [(0, .int .i64 1), (1, .int .i64 1), (3, .slice (some ⟨g6, 0, none⟩) (([1, 2, 3] : List Int).length) 3)]) (cs := [.int .i64 1, .int .i64 1, .int .u32 0, .slice (some ⟨g6, 0, none⟩) (([1, 2, 3] : List Int).length) 3]) Y (by apply wY)) ?_
 have H2 := K9.fz s0
 refine ni (τ := tChunk) (x := (⟨1, 1, 0, ([1, 2, 3] : List Int)⟩ : AChunk)) Y (by intro _; apply vv) rfl H2 (fun _ e => ⟨_, _, rfl, (H2.s s0).ext e⟩) fun g7 J8 K10 => ?_
 refine ev (Ev.build (vs := [(0, .slice (some ⟨g1, 0, none⟩) (([(⟨1, 1, 4, 0⟩ : ANode), (⟨2, 1, 4, 0⟩ : ANode), (⟨3, 2, 4, 0⟩ : ANode)] : List ANode).length) 3), (1, .slice (some ⟨g7, 0, none⟩) (([(⟨1, 1, 0, ([1, 2, 3] : List Int)⟩ : AChunk)] : List AChunk).length) 1)]) (cs := [.slice (some ⟨g1, 0, none⟩) (([(⟨1, 1, 4, 0⟩ : ANode), (⟨2, 1, 4, 0⟩ : ANode), (⟨3, 2, 4, 0⟩ : ANode)] : List ANode).length) 3, .slice (some ⟨g7, 0, none⟩) (([(⟨1, 1, 0, ([1, 2, 3] : List Int)⟩ : AChunk)] : List AChunk).length) 1, .slice none 0 0]) Y (by apply Cj)) ?_
 refine mv Y <| ev (Ev.build (vs := [(0, .slice (some ⟨g2, 0, none⟩) (([(⟨1, 0⟩ : ABeat), (⟨2, 0⟩ : ABeat), (⟨3, 0⟩ : ABeat)] : List ABeat).length) 3)]) (cs := [.slice (some ⟨g2, 0, none⟩) (([(⟨1, 0⟩ : ABeat), (⟨2, 0⟩ : ABeat), (⟨3, 0⟩ : ABeat)] : List ABeat).length) 3, .slice none 0 0, .slice none 0 0]) Y (by apply M9)) ?_
 refine C0 K10 Y Y Y aax (Fb (S0 := Any) _ ) fun Om qb => ?_
 refine WL.call Y Y Y WT (E8 _ (⟨([(⟨1, 1, 4, 0⟩ : ANode), (⟨2, 1, 4, 0⟩ : ANode), (⟨3, 2, 4, 0⟩ : ANode)] : List ANode), ([(⟨1, 1, 0, ([1, 2, 3] : List Int)⟩ : AChunk)] : List AChunk), []⟩ : AMeta) (qb.o s11) (qb.o s0) (Sl.none_ tSession Any _) (⟨([(⟨1, 0⟩ : ABeat), (⟨2, 0⟩ : ABeat), (⟨3, 0⟩ : ABeat)] : List ABeat), [], []⟩ : ASoft) (qb.o s10) (Sl.none_ tLease Any _) (Sl.none_ tOrder Any _) HZ 5 (by decide) (by decide) (by decide) (by decide) (by decide) (by decide)) Y ?_
 rintro _ Le ⟨Dk, Dl, ahq, ahr, ahs, aht, WY, WZ, W9, Xa, rfl, h12⟩
 have oH := qb.f5 h12
 have acN := (oH.o s0).aN
 have ajd := (oH.o s1).aN
 have aje := (oH.o s2).aN
 have ajf := (oH.o s3).aN
 have ajg := (oH.o s4).aN
 refine mv Y <| xt Y Y <| xt Y Y <| xt Y Y ?_
 refine al rR Y oH fun g8 RY sP => ?_
 refine iW Y Y Y rT sP s0 Y Y fun RZ nO => ?_
 refine aR Y <| aR Y <| dn ?_
 have hq1 : ((jH (⟨([(⟨1, 1, 4, 0⟩ : ANode), (⟨2, 1, 4, 0⟩ : ANode), (⟨3, 2, 4, 0⟩ : ANode)] : List ANode), ([(⟨1, 1, 0, ([1] : List Int)⟩ : AChunk)] : List AChunk), []⟩ : AMeta) (⟨([(⟨1, 0⟩ : ABeat), (⟨2, 0⟩ : ABeat), (⟨3, 0⟩ : ABeat)] : List ABeat), [], []⟩ : ASoft) HZ 5) : List AOrder) = ([(⟨0, 1, 1, 0, 1, 3, 10⟩ : AOrder)] : List AOrder) := aw1
 rw [hq1] at nO
 refine WP.re (t := 28) Y (congrArg (fun (z : List AOrder) => Value.slice Y3 z.length Y4) hq1) <| WP.re (t := 4) Y (congrArg (fun (z : List AOrder) => Value.slice Y3 z.length Y4) hq1) ?_
 have hq2 : ((jH (⟨([(⟨1, 1, 4, 0⟩ : ANode), (⟨2, 1, 4, 0⟩ : ANode), (⟨3, 2, 4, 0⟩ : ANode)] : List ANode), ([(⟨1, 1, 0, ([1, 2, 3] : List Int)⟩ : AChunk)] : List AChunk), []⟩ : AMeta) (⟨([(⟨1, 0⟩ : ABeat), (⟨2, 0⟩ : ABeat), (⟨3, 0⟩ : ABeat)] : List ABeat), [], []⟩ : ASoft) HZ 5) : List AOrder) = ([(⟨1, 1, 1, 0, 2, 2, 10⟩ : AOrder)] : List AOrder) := aw2
 rw [hq2] at nO
 refine WP.re (t := 41) Y (congrArg (fun (z : List AOrder) => Value.slice WY z.length WZ) hq2) <| WP.re (t := 7) Y (congrArg (fun (z : List AOrder) => Value.slice WY z.length WZ) hq2) ?_
 refine WP.re (t := 8) (v := .slice W9 1 Xa) Y (congrArg (fun z => Value.slice W9 z Xa) aw3) <| WP.keep' [(4, .slice Y3 (([(⟨0, 1, 1, 0, 1, 3, 10⟩ : AOrder)] : List AOrder).length) Y4), (7, .slice WY (([(⟨1, 1, 1, 0, 2, 2, 10⟩ : AOrder)] : List AOrder).length) WZ), (8, .slice W9 1 Xa)] Y ?_
 refine rg <| mv Y <| ev (Ev.len Tryz.underlying29 Y) <| ev (Ev.eql Y Y) <| mv Y ?_
 refine WL.dR 6 52 ((decide (((([(⟨0, 1, 1, 0, 1, 3, 10⟩ : AOrder)] : List AOrder).length : Nat) : Int) = 1)) && true) ?_ ?_
 ·
  cases ajh : decide (((([(⟨0, 1, 1, 0, 1, 3, 10⟩ : AOrder)] : List AOrder).length : Nat) : Int) = 1) with
  | true =>
   have alm := of_decide_eq_true ajh
   refine WL.bF Y (Ev.move Y) Y <| WL.bF Y (Ev.index (i := 0) Tryz.underlying29 gW Y Y Y (aC (show ([(⟨0, 1, 1, 0, 1, 3, 10⟩ : AOrder)] : List AOrder)[0]? = some (⟨0, 1, 1, 0, 1, 3, 10⟩ : AOrder) from Y)) ((nO.o s12).some_ (show ([(⟨0, 1, 1, 0, 1, 3, 10⟩ : AOrder)] : List AOrder)[0]? = some (⟨0, 1, 1, 0, 1, 3, 10⟩ : AOrder) from Y))) Y ?_
   refine WL.bF Y (Ev.field QF Y (bJ _ _ _)) Y <| WL.bF Y (Ev.aZ bf Y ((nO.o s12).aX (j := 0) (show ([(⟨0, 1, 1, 0, 1, 3, 10⟩ : AOrder)] : List AOrder)[0]? = some (⟨0, 1, 1, 0, 1, 3, 10⟩ : AOrder) from Y) Y)) Y ?_
   refine WL.bF Y (Ev.eql Y Y) Y <| ev (Ev.bq Y Y) ?_
   exact WL.bM Y
  | false =>
   refine WL.pass Y Y Y <| WL.pass Y Y Y <| WL.pass Y Y Y <| WL.pass Y Y Y <| WL.pass Y Y Y <| ev (Ev.bn Y Y) ?_
   exact WL.bM Y
 refine mv Y ?_
 refine WL.dR 6 59 (((decide (((([(⟨0, 1, 1, 0, 1, 3, 10⟩ : AOrder)] : List AOrder).length : Nat) : Int) = 1)) && true) && true) ?_ ?_
 ·
  cases aji : ((decide (((([(⟨0, 1, 1, 0, 1, 3, 10⟩ : AOrder)] : List AOrder).length : Nat) : Int) = 1)) && true) with
  | true =>
   have afY := aji
   try simp only [Bool.and_eq_true, Bool.and_eq_false_imp, decide_eq_true_eq, decide_eq_false_iff_not, Bool.false_eq_true, false_or, or_false, true_and, and_true] at afY
   refine WL.bF Y (Ev.move Y) Y <| WL.bF Y (Ev.index (i := 0) Tryz.underlying29 gW Y Y Y (aC (show ([(⟨0, 1, 1, 0, 1, 3, 10⟩ : AOrder)] : List AOrder)[0]? = some (⟨0, 1, 1, 0, 1, 3, 10⟩ : AOrder) from Y)) ((nO.o s12).some_ (show ([(⟨0, 1, 1, 0, 1, 3, 10⟩ : AOrder)] : List AOrder)[0]? = some (⟨0, 1, 1, 0, 1, 3, 10⟩ : AOrder) from Y))) Y ?_
   refine WL.bF Y (Ev.field Jl Y (bJ _ _ _)) Y <| WL.bF Y (Ev.aZ bf Y ((nO.o s12).aX (j := 4) (show ([(⟨0, 1, 1, 0, 1, 3, 10⟩ : AOrder)] : List AOrder)[0]? = some (⟨0, 1, 1, 0, 1, 3, 10⟩ : AOrder) from Y) Y)) Y ?_
   refine WL.bF Y (Ev.eql Y Y) Y <| ev (Ev.bq Y Y) ?_
   exact WL.bM Y
  | false =>
   refine WL.pass Y Y Y <| WL.pass Y Y Y <| WL.pass Y Y Y <| WL.pass Y Y Y <| WL.pass Y Y Y <| ev (Ev.bn Y Y) ?_
   exact WL.bM Y
 refine mv Y ?_
 refine WL.dR 6 66 ((((decide (((([(⟨0, 1, 1, 0, 1, 3, 10⟩ : AOrder)] : List AOrder).length : Nat) : Int) = 1)) && true) && true) && true) ?_ ?_
 ·
  cases ajj : (((decide (((([(⟨0, 1, 1, 0, 1, 3, 10⟩ : AOrder)] : List AOrder).length : Nat) : Int) = 1)) && true) && true) with
  | true =>
   have afZ := ajj
   try simp only [Bool.and_eq_true, Bool.and_eq_false_imp, decide_eq_true_eq, decide_eq_false_iff_not, Bool.false_eq_true, false_or, or_false, true_and, and_true] at afZ
   refine WL.bF Y (Ev.move Y) Y <| WL.bF Y (Ev.index (i := 0) Tryz.underlying29 gW Y Y Y (aC (show ([(⟨0, 1, 1, 0, 1, 3, 10⟩ : AOrder)] : List AOrder)[0]? = some (⟨0, 1, 1, 0, 1, 3, 10⟩ : AOrder) from Y)) ((nO.o s12).some_ (show ([(⟨0, 1, 1, 0, 1, 3, 10⟩ : AOrder)] : List AOrder)[0]? = some (⟨0, 1, 1, 0, 1, 3, 10⟩ : AOrder) from Y))) Y ?_
   refine WL.bF Y (Ev.field zM Y (bJ _ _ _)) Y <| WL.bF Y (Ev.aZ bf Y ((nO.o s12).aX (j := 5) (show ([(⟨0, 1, 1, 0, 1, 3, 10⟩ : AOrder)] : List AOrder)[0]? = some (⟨0, 1, 1, 0, 1, 3, 10⟩ : AOrder) from Y) Y)) Y ?_
   refine WL.bF Y (Ev.eql Y Y) Y <| ev (Ev.bq Y Y) ?_
   exact WL.bM Y
  | false =>
   refine WL.pass Y Y Y <| WL.pass Y Y Y <| WL.pass Y Y Y <| WL.pass Y Y Y <| WL.pass Y Y Y <| ev (Ev.bn Y Y) ?_
   exact WL.bM Y
 refine mv Y ?_
 refine WL.dR 4 71 (((((decide (((([(⟨0, 1, 1, 0, 1, 3, 10⟩ : AOrder)] : List AOrder).length : Nat) : Int) = 1)) && true) && true) && true) && (decide (((([(⟨1, 1, 1, 0, 2, 2, 10⟩ : AOrder)] : List AOrder).length : Nat) : Int) = 1))) ?_ ?_
 ·
  cases ajk : ((((decide (((([(⟨0, 1, 1, 0, 1, 3, 10⟩ : AOrder)] : List AOrder).length : Nat) : Int) = 1)) && true) && true) && true) with
  | true =>
   have af0 := ajk
   try simp only [Bool.and_eq_true, Bool.and_eq_false_imp, decide_eq_true_eq, decide_eq_false_iff_not, Bool.false_eq_true, false_or, or_false, true_and, and_true] at af0
   refine WL.bF Y (Ev.move Y) Y <| WL.bF Y (Ev.len Tryz.underlying29 Y) Y <| WL.bF Y (Ev.eql Y Y) Y <| ev (Ev.bq Y Y) ?_
   exact WL.bM Y
  | false =>
   refine WL.pass Y Y Y <| WL.pass Y Y Y <| WL.pass Y Y Y <| ev (Ev.bn Y Y) ?_
   exact WL.bM Y
 refine mv Y ?_
 refine WL.dR 6 78 ((((((decide (((([(⟨0, 1, 1, 0, 1, 3, 10⟩ : AOrder)] : List AOrder).length : Nat) : Int) = 1)) && true) && true) && true) && (decide (((([(⟨1, 1, 1, 0, 2, 2, 10⟩ : AOrder)] : List AOrder).length : Nat) : Int) = 1))) && true) ?_ ?_
 ·
  cases ajl : (((((decide (((([(⟨0, 1, 1, 0, 1, 3, 10⟩ : AOrder)] : List AOrder).length : Nat) : Int) = 1)) && true) && true) && true) && (decide (((([(⟨1, 1, 1, 0, 2, 2, 10⟩ : AOrder)] : List AOrder).length : Nat) : Int) = 1))) with
  | true =>
   have af2 := ajl
   try simp only [Bool.and_eq_true, Bool.and_eq_false_imp, decide_eq_true_eq, decide_eq_false_iff_not, Bool.false_eq_true, false_or, or_false, true_and, and_true] at af2
   refine WL.bF Y (Ev.move Y) Y <| WL.bF Y (Ev.index (i := 0) Tryz.underlying29 gW Y Y Y (aC (show ([(⟨1, 1, 1, 0, 2, 2, 10⟩ : AOrder)] : List AOrder)[0]? = some (⟨1, 1, 1, 0, 2, 2, 10⟩ : AOrder) from Y)) ((nO.o s4).some_ (show ([(⟨1, 1, 1, 0, 2, 2, 10⟩ : AOrder)] : List AOrder)[0]? = some (⟨1, 1, 1, 0, 2, 2, 10⟩ : AOrder) from Y))) Y ?_
   refine WL.bF Y (Ev.field QF Y (bJ _ _ _)) Y <| WL.bF Y (Ev.aZ bf Y ((nO.o s4).aX (j := 0) (show ([(⟨1, 1, 1, 0, 2, 2, 10⟩ : AOrder)] : List AOrder)[0]? = some (⟨1, 1, 1, 0, 2, 2, 10⟩ : AOrder) from Y) Y)) Y ?_
   refine WL.bF Y (Ev.eql Y Y) Y <| ev (Ev.bq Y Y) ?_
   exact WL.bM Y
  | false =>
   refine WL.pass Y Y Y <| WL.pass Y Y Y <| WL.pass Y Y Y <| WL.pass Y Y Y <| WL.pass Y Y Y <| ev (Ev.bn Y Y) ?_
   exact WL.bM Y
 refine mv Y ?_
 refine WL.dR 4 83 (((((((decide (((([(⟨0, 1, 1, 0, 1, 3, 10⟩ : AOrder)] : List AOrder).length : Nat) : Int) = 1)) && true) && true) && true) && (decide (((([(⟨1, 1, 1, 0, 2, 2, 10⟩ : AOrder)] : List AOrder).length : Nat) : Int) = 1))) && true) && (decide (((1 : Nat) : Int) = 1))) ?_ ?_
 ·
  cases ajm : ((((((decide (((([(⟨0, 1, 1, 0, 1, 3, 10⟩ : AOrder)] : List AOrder).length : Nat) : Int) = 1)) && true) && true) && true) && (decide (((([(⟨1, 1, 1, 0, 2, 2, 10⟩ : AOrder)] : List AOrder).length : Nat) : Int) = 1))) && true) with
  | true =>
   have af3 := ajm
   try simp only [Bool.and_eq_true, Bool.and_eq_false_imp, decide_eq_true_eq, decide_eq_false_iff_not, Bool.false_eq_true, false_or, or_false, true_and, and_true] at af3
   refine WL.bF Y (Ev.move Y) Y <| WL.bF Y (Ev.len Tryz.underlying37 Y) Y <| WL.bF Y (Ev.eql Y Y) Y <| ev (Ev.bq Y Y) ?_
   exact WL.bM Y
  | false =>
   refine WL.pass Y Y Y <| WL.pass Y Y Y <| WL.pass Y Y Y <| ev (Ev.bn Y Y) ?_
   exact WL.bM Y
 refine aR Y <| dn ?_
 refine WP.ret (aA.aD Y Y Y ?_)
 have hq3 : ((((((((decide (((([(⟨0, 1, 1, 0, 1, 3, 10⟩ : AOrder)] : List AOrder).length : Nat) : Int) = 1)) && true) && true) && true) && (decide (((([(⟨1, 1, 1, 0, 2, 2, 10⟩ : AOrder)] : List AOrder).length : Nat) : Int) = 1))) && true) && (decide (((1 : Nat) : Int) = 1))) : Bool) = true := by rfl
 exact ⟨by rw [hq3] <;> rfl, nO.z⟩
end Go.Proofs.YtjcklpooaaaglaaGreat
set_option maxRecDepth 4000
set_option linter.all false
namespace Go.Proofs.YtjcklpooaaaglaaGreat
open Go.RowKit
theorem Xb : aM Tryz.prog 43 := fun _ _ => by kernel_rfl
theorem ac0 : aM Tryz.prog 104 := fun _ _ => by kernel_rfl
theorem ac1 : aM Tryz.prog 105 := fun _ _ => by kernel_rfl
theorem ac2 : aM Tryz.prog 108 := fun _ _ => by kernel_rfl
theorem af4 : aM Tryz.prog 57 := fun _ _ => by kernel_rfl
theorem BF {S0 : Nat → Prop} (w : World) {d9 : an3} {eu : Nat} {l : List AChunk} (dN : Sl tChunk S0 w d9 eu l) :
    bY Tryz.prog 43 #[.slice d9 l.length eu] w fun v w' => v = .bool (jA l) ∧ Hp w S0 w' [] := by
 refine WP.enter Tryz.func43 Y Tryz.ntmps43 Y ?_
 have H0 := Hp.init w S0
 have iJ := dN.aN
 refine rg <| aR Y <| dn <| WP.seq <| rg <| mv Y <| ev (Ev.len Tryz.underlying23 Y) <| ev (Ev.gtr Y Y) <| dn ?_
 refine WP.aG Y (fun hc8 => ?_) (fun hc8 => ?_)
 ·
  replace hc8 := of_decide_eq_true hc8
  refine rg <| aR Y <| dn ?_
  refine WP.ret (aA.aP (aA.aD Y Y Y ?_))
  have hq1 : (false : Bool) = (jA l) := by symm; unfold jA; rw [decide_eq_false (show ¬ l.length ≤ 32 by omega)]; simp
  exact ⟨by rw [← hq1] <;> rfl, H0⟩
 replace hc8 := of_decide_eq_false hc8
 refine WP.skip (aA.norm ?_)
 refine WP.seq <| rg <| aR Y <| dn <| WP.block <| Lp H0 (fun l0 rk mJ lJ wJ => ∃ (k : Nat), lJ = (3, .int .i64 ((k : Nat) : Int)) :: l0 ∧ mJ = l.length - k ∧ k ≤ l.length ∧ (∀ y ∈ l.take k, pX y = true) ∧ (fB 1048576 1 ((l.map AChunk.ID).take k) = true) ∧ Hp w S0 wJ rk) ⟨0, Y, Y, Nat.zero_le _, by simp, by simp [fB], H0⟩ rfl ?_
 rintro _ _ w1 ⟨k, rfl, rfl, hk, hall, SX, K1⟩
 refine WP.seq <| rg <| mv Y <| mv Y <| ev (Ev.len Tryz.underlying23 Y) <| ev (Ev.lss Y Y) <| dn ?_
 refine WP.aG Y (fun iL => ?_) (fun iL => ?_)
 ·
  replace iL := of_decide_eq_true iL
  refine WP.skip (aA.norm ?_)
  refine WP.seq <| WP.block <| rg <| mv Y <| mv Y ?_
  obtain ⟨x1, hx1⟩ := get_some (xs := l) (i := k) (by omega)
  refine ev (Ev.index (i := k) Tryz.underlying23 gu Y Y Y (aC hx1) ((K1.a dN).some_ hx1)) ?_
  obtain ⟨B1, d1, kL, hi1⟩ := AChunk.op (dN.row hx1)
  refine ev (Ev.loadRow (cs := [.int .i64 x1.ID, .int .i64 x1.ay, .int .u32 x1.Sum, .slice B1 x1.av.length d1]) gQ Y Y (oJ (fun j u hu => K1.ext.cell (kL j u hu)))) ?_
  refine al iI Y K1 fun g1 w2 K2 => ?_
  refine iW Y Y Y gu K2 s0 Y Y fun w3 K3 => ?_
  refine dn <| WP.seq <| WP.draw (by kernel_rfl) (by kernel_rfl) <| WQ.ev (Ev.field (q := ⟨g1, 0, none⟩) gI Y Y) Y <| WQ.ev (Ev.aj bf Y (K3.x s0) Y) Y <| WQ.ev (Ev.lss Y Y) Y <| WQ.ev (Ev.move Y) Y ?_
  refine WQ.dR 4 26 ((decide (x1.ID < 1)) || (decide (1048576 < x1.ID))) ?_ ?_
  ·
   cases ac3 : decide (x1.ID < 1) with
   | true =>
    refine WQ.pass Y Y Y <| WQ.pass Y Y Y <| WQ.pass Y Y Y <| WQ.ev (Ev.bq Y Y) Y ?_
    exact WQ.bM Y
   | false =>
    have af5 := of_decide_eq_false ac3
    refine WQ.bF Y (Ev.field (q := ⟨g1, 0, none⟩) gI Y Y) Y <| WQ.bF Y (Ev.aj bf Y (K3.x s0) Y) Y <| WQ.bF Y (Ev.gtr Y Y) Y ?_
    refine WQ.ev (Ev.bn Y Y) Y ?_
    exact WQ.bM Y
  refine WQ.ev (Ev.move Y) Y ?_
  refine WQ.dR 4 31 (((decide (x1.ID < 1)) || (decide (1048576 < x1.ID))) || (decide (x1.ay < 1))) ?_ ?_
  ·
   cases SY : ((decide (x1.ID < 1)) || (decide (1048576 < x1.ID))) with
   | true =>
    refine WQ.pass Y Y Y <| WQ.pass Y Y Y <| WQ.pass Y Y Y <| WQ.ev (Ev.bq Y Y) Y ?_
    exact WQ.bM Y
   | false =>
    have QG := SY
    try simp only [Bool.or_eq_true, Bool.or_eq_false_iff, decide_eq_true_eq, decide_eq_false_iff_not] at QG
    refine WQ.bF Y (Ev.field (q := ⟨g1, 1, none⟩) kZ Y Y) Y <| WQ.bF Y (Ev.aj bf Y (K3.x s0) Y) Y <| WQ.bF Y (Ev.lss Y Y) Y ?_
    refine WQ.ev (Ev.bn Y Y) Y ?_
    exact WQ.bM Y
  refine WQ.ev (Ev.move Y) Y ?_
  refine WQ.dR 4 36 ((((decide (x1.ID < 1)) || (decide (1048576 < x1.ID))) || (decide (x1.ay < 1))) || (decide (1073741824 < x1.ay))) ?_ ?_
  ·
   cases ajn : (((decide (x1.ID < 1)) || (decide (1048576 < x1.ID))) || (decide (x1.ay < 1))) with
   | true =>
    refine WQ.pass Y Y Y <| WQ.pass Y Y Y <| WQ.pass Y Y Y <| WQ.ev (Ev.bq Y Y) Y ?_
    exact WQ.bM Y
   | false =>
    have af6 := ajn
    try simp only [Bool.or_eq_true, Bool.or_eq_false_iff, decide_eq_true_eq, decide_eq_false_iff_not] at af6
    refine WQ.bF Y (Ev.field (q := ⟨g1, 1, none⟩) kZ Y Y) Y <| WQ.bF Y (Ev.aj bf Y (K3.x s0) Y) Y <| WQ.bF Y (Ev.gtr Y Y) Y ?_
    refine WQ.ev (Ev.bn Y Y) Y ?_
    exact WQ.bM Y
  refine WQ.ev (Ev.move Y) Y ?_
  refine WQ.dR 14 51 (((((decide (x1.ID < 1)) || (decide (1048576 < x1.ID))) || (decide (x1.ay < 1))) || (decide (1073741824 < x1.ay))) || (jX (l.map AChunk.ID) k x1.ID)) ?_ ?_
  ·
   cases yQ : ((((decide (x1.ID < 1)) || (decide (1048576 < x1.ID))) || (decide (x1.ay < 1))) || (decide (1073741824 < x1.ay))) with
   | true =>
    refine WQ.pass Y Y Y <| WQ.pass Y Y Y <| WQ.pass Y Y Y <| WQ.pass Y Y Y <| WQ.pass Y Y Y <| WQ.pass Y Y Y <| WQ.pass Y Y Y <| WQ.pass Y Y Y <| WQ.pass Y Y Y <| WQ.pass Y Y Y <| WQ.pass Y Y Y <| WQ.pass Y Y Y <| WQ.pass Y Y Y <| WQ.ev (Ev.bq Y Y) Y ?_
    exact WQ.bM Y
   | false =>
    have Xc := yQ
    try simp only [Bool.or_eq_true, Bool.or_eq_false_iff, decide_eq_true_eq, decide_eq_false_iff_not] at Xc
    refine WQ.bF Y (Ev.move Y) Y <| WQ.bF Y (Ev.gtr Y Y) Y <| WQ.bF Y (Ev.move Y) Y ?_
    refine WQ.dR 10 50 (jX (l.map AChunk.ID) k x1.ID) ?_ ?_
    ·
     cases I9 : decide (0 < ((k : Nat) : Int)) with
     | true =>
      have QH := of_decide_eq_true I9
      refine WQ.bF Y (Ev.field (q := ⟨g1, 0, none⟩) gI Y Y) Y <| WQ.bF Y (Ev.aj bf Y (K3.x s0) Y) Y <| WQ.bF Y (Ev.move Y) Y ?_
      refine WQ.bF Y (Ev.move Y) Y <| WQ.bF Y (Ev.Uh (a := k) (b := 1) Y Y Y (by omega) (by omega)) Y ?_
      obtain ⟨x2, hx2⟩ := get_some (xs := l) (i := k - 1) (by omega)
      refine WQ.bF Y (Ev.index (i := k - 1) Tryz.underlying23 gu Y Y Y (aC hx2) ((K3.a dN).some_ hx2)) Y <| WQ.bF Y (Ev.field gI Y (bJ _ _ _)) Y ?_
      obtain ⟨B2, d2, Oc, hi2⟩ := AChunk.op (dN.row hx2)
      refine WQ.bF Y (Ev.aZ bf Y ((fun j u hu => K3.ext.cell (Oc j u hu)) 0 _ Y)) Y <| WQ.bF Y (Ev.leq Y Y) Y <| WQ.bF Y (Ev.bq Y Y) Y ?_
      refine WQ.re (t := 50) (u := .bool (decide (x1.ID ≤ x2.ID))) (v := .bool (jX (l.map AChunk.ID) k x1.ID)) Y (congrArg Value.bool (by exact (AB (by omega) (zn hx2)).symm)) ?_
      exact WQ.bM Y
     | false =>
      refine WQ.pass Y Y Y <| WQ.pass Y Y Y <| WQ.pass Y Y Y <| WQ.pass Y Y Y <| WQ.pass Y Y Y <| WQ.pass Y Y Y <| WQ.pass Y Y Y <| WQ.pass Y Y Y <| WQ.pass Y Y Y <| WQ.bF Y (Ev.bn Y Y) Y <| WQ.re (t := 50) (u := .bool false) (v := .bool (jX (l.map AChunk.ID) k x1.ID)) Y (congrArg Value.bool (by exact (wI (by have := of_decide_eq_false I9; omega)).symm)) ?_
      exact WQ.bM Y
    refine WQ.ev (Ev.bn Y Y) Y ?_
    exact WQ.bM Y
  refine WQ.done fun w4 e4 => ?_
  have K4 := K3.grow e4
  refine WP.aG Y (fun S9 => ?_) (fun S9 => ?_)
  ·
   try simp only [Bool.or_eq_true, Bool.or_eq_false_iff, decide_eq_true_eq, decide_eq_false_iff_not] at S9
   refine rg <| aR Y <| dn ?_
   refine WP.ret (aA.aP (aA.bW (aA.aP (aA.aP (aA.bW (aA.aP (aA.aD Y Y Y ?_)))))))
   have hq2 : (false : Bool) = (jA l) := by symm; rcases S9 with (((p | p) | p) | p) | p; exact yK (k := k) (by rw [tF (zn hx1) SX]; simp [p]); exact yK (k := k) (by rw [tF (zn hx1) SX]; simp [p]); exact yJ (bV hx1) (by simp [pX, p]); exact yJ (bV hx1) (by simp [pX, p]); exact yK (k := k) (by rw [tF (zn hx1) SX]; simp [p])
   exact ⟨by rw [← hq2] <;> rfl, (K4.rm s0)⟩
  try simp only [Bool.or_eq_true, Bool.or_eq_false_iff, decide_eq_true_eq, decide_eq_false_iff_not] at S9
  refine WP.skip (aA.norm ?_)
  have hxl := hi1.aN
  refine rg <| aR Y <| dn <| WP.block <| Lp K4 (fun l0 rk mJ lJ wJ => ∃ (k2 : Nat), lJ = (5, .int .i64 ((k2 : Nat) : Int)) :: l0 ∧ mJ = x1.av.length - k2 ∧ k2 ≤ x1.av.length ∧ (fB 16 1 (x1.av.take k2) = true) ∧ Hp w S0 wJ rk) ⟨0, Y, Y, Nat.zero_le _, by simp [fB], K4⟩ rfl ?_
  rintro _ _ w5 ⟨k2, rfl, rfl, hk2, Zb, K5⟩
  refine WP.seq <| rg <| mv Y <| ev (Ev.field (q := ⟨g1, 3, none⟩) fT Y Y) <| ev (Ev.aj gK Y (K5.x s0) Y) <| ev (Ev.len Tryz.underlying51 Y) <| ev (Ev.lss Y Y) <| dn ?_
  refine WP.aG Y (fun Ea => ?_) (fun Ea => ?_)
  ·
   replace Ea := of_decide_eq_true Ea
   refine WP.skip (aA.norm ?_)
   refine WP.seq <| WP.block <| WP.draw (by kernel_rfl) (by kernel_rfl) <| WQ.ev (Ev.field (q := ⟨g1, 3, none⟩) fT Y Y) Y <| WQ.ev (Ev.aj gK Y (K5.x s0) Y) Y <| WQ.ev (Ev.move Y) Y ?_
   obtain ⟨x3, hx3⟩ := get_some (xs := x1.av) (i := k2) (by omega)
   refine WQ.ev (Ev.index (i := k2) Tryz.underlying51 iC Y Y Y (aC hx3) ((K5.a hi1).some_ hx3)) Y <| WQ.ev (Ev.aZ bf Y ((K5.a hi1).aX (j := 0) hx3 Y)) Y ?_
   refine WQ.ev (Ev.lss Y Y) Y <| WQ.ev (Ev.move Y) Y ?_
   refine WQ.dR 7 72 ((decide (x3 < 1)) || (decide (16 < x3))) ?_ ?_
   ·
    cases ajo : decide (x3 < 1) with
    | true =>
     refine WQ.pass Y Y Y <| WQ.pass Y Y Y <| WQ.pass Y Y Y <| WQ.pass Y Y Y <| WQ.pass Y Y Y <| WQ.pass Y Y Y <| WQ.ev (Ev.bq Y Y) Y ?_
     exact WQ.bM Y
    | false =>
     have aln := of_decide_eq_false ajo
     refine WQ.bF Y (Ev.field (q := ⟨g1, 3, none⟩) fT Y Y) Y <| WQ.bF Y (Ev.aj gK Y (K5.x s0) Y) Y <| WQ.bF Y (Ev.move Y) Y ?_
     refine WQ.bF Y (Ev.index (i := k2) Tryz.underlying51 iC Y Y Y (aC hx3) ((K5.a hi1).some_ hx3)) Y <| WQ.bF Y (Ev.aZ bf Y ((K5.a hi1).aX (j := 0) hx3 Y)) Y ?_
     refine WQ.bF Y (Ev.gtr Y Y) Y <| WQ.ev (Ev.bn Y Y) Y ?_
     exact WQ.bM Y
   refine WQ.ev (Ev.move Y) Y ?_
   refine WQ.dR 17 90 (((decide (x3 < 1)) || (decide (16 < x3))) || (jX x1.av k2 x3)) ?_ ?_
   ·
    cases af7 : ((decide (x3 < 1)) || (decide (16 < x3))) with
    | true =>
     refine WQ.pass Y Y Y <| WQ.pass Y Y Y <| WQ.pass Y Y Y <| WQ.pass Y Y Y <| WQ.pass Y Y Y <| WQ.pass Y Y Y <| WQ.pass Y Y Y <| WQ.pass Y Y Y <| WQ.pass Y Y Y <| WQ.pass Y Y Y <| WQ.pass Y Y Y <| WQ.pass Y Y Y <| WQ.pass Y Y Y <| WQ.pass Y Y Y ?_
     refine WQ.pass Y Y Y <| WQ.pass Y Y Y <| WQ.ev (Ev.bq Y Y) Y ?_
     exact WQ.bM Y
    | false =>
     have af8 := af7
     try simp only [Bool.or_eq_true, Bool.or_eq_false_iff, decide_eq_true_eq, decide_eq_false_iff_not] at af8
     refine WQ.bF Y (Ev.move Y) Y <| WQ.bF Y (Ev.gtr Y Y) Y <| WQ.bF Y (Ev.move Y) Y ?_
     refine WQ.dR 13 89 (jX x1.av k2 x3) ?_ ?_
     ·
      cases Xd : decide (0 < ((k2 : Nat) : Int)) with
      | true =>
       have aay := of_decide_eq_true Xd
       refine WQ.bF Y (Ev.field (q := ⟨g1, 3, none⟩) fT Y Y) Y <| WQ.bF Y (Ev.aj gK Y (K5.x s0) Y) Y <| WQ.bF Y (Ev.move Y) Y ?_
       refine WQ.bF Y (Ev.index (i := k2) Tryz.underlying51 iC Y Y Y (aC hx3) ((K5.a hi1).some_ hx3)) Y <| WQ.bF Y (Ev.aZ bf Y ((K5.a hi1).aX (j := 0) hx3 Y)) Y ?_
       refine WQ.bF Y (Ev.field (q := ⟨g1, 3, none⟩) fT Y Y) Y <| WQ.bF Y (Ev.aj gK Y (K5.x s0) Y) Y <| WQ.bF Y (Ev.move Y) Y ?_
       refine WQ.bF Y (Ev.Uh (a := k2) (b := 1) Y Y Y (by omega) (by omega)) Y ?_
       obtain ⟨x4, hx4⟩ := get_some (xs := x1.av) (i := k2 - 1) (by omega)
       refine WQ.bF Y (Ev.index (i := k2 - 1) Tryz.underlying51 iC Y Y Y (aC hx4) ((K5.a hi1).some_ hx4)) Y <| WQ.bF Y (Ev.aZ bf Y ((K5.a hi1).aX (j := 0) hx4 Y)) Y ?_
       refine WQ.bF Y (Ev.leq Y Y) Y <| WQ.bF Y (Ev.bq Y Y) Y <| WQ.re (t := 89) (u := .bool (decide (x3 ≤ x4))) (v := .bool (jX x1.av k2 x3)) Y (congrArg Value.bool (by exact (AB (by omega) hx4).symm)) ?_
       exact WQ.bM Y
      | false =>
       refine WQ.pass Y Y Y <| WQ.pass Y Y Y <| WQ.pass Y Y Y <| WQ.pass Y Y Y <| WQ.pass Y Y Y <| WQ.pass Y Y Y <| WQ.pass Y Y Y <| WQ.pass Y Y Y <| WQ.pass Y Y Y <| WQ.pass Y Y Y <| WQ.pass Y Y Y <| WQ.pass Y Y Y <| WQ.bF Y (Ev.bn Y Y) Y <| WQ.re (t := 89) (u := .bool false) (v := .bool (jX x1.av k2 x3)) Y (congrArg Value.bool (by exact (wI (by have := of_decide_eq_false Xd; omega)).symm)) ?_
       exact WQ.bM Y
     refine WQ.ev (Ev.bn Y Y) Y ?_
     exact WQ.bM Y
   refine WQ.done fun w6 e6 => ?_
   have K6 := K5.grow e6
   refine WP.aG Y (fun hc90 => ?_) (fun hc90 => ?_)
   ·
    try simp only [Bool.or_eq_true, Bool.or_eq_false_iff, decide_eq_true_eq, decide_eq_false_iff_not] at hc90
    refine rg <| aR Y <| dn ?_
    refine WP.ret (aA.bW (aA.aP (aA.aP (aA.bW (aA.bW (aA.aP (aA.aP (aA.bW (aA.aP (aA.aD Y Y Y ?_))))))))))
    have hq3 : (false : Bool) = (jA l) := by symm; refine yJ (bV hx1) (YE (k := k2) ?_); rw [tF hx3 Zb]; rcases hc90 with (p | p) | p <;> simp [p]
    exact ⟨by rw [← hq3] <;> rfl, (K6.rm s0)⟩
   try simp only [Bool.or_eq_true, Bool.or_eq_false_iff, decide_eq_true_eq, decide_eq_false_iff_not] at hc90
   refine WP.skip (aA.aS (aA.norm ?_))
   refine eP <| mv Y <| ev (Ev.add Y Y (eX.mk (by omega) (by omega))) <| aR Y <| eT ?_
   exact aA.ag ⟨(k2 + 1), Y, Y, by omega, by rw [tF hx3 Zb]; obtain ⟨⟨p1, p2⟩, p3⟩ := hc90; simp [p3]; omega, K6⟩ rfl (by omega)
  replace Ea := of_decide_eq_false Ea
  refine WP.exit (aA.aF (aA.aF (aA.bS (aA.aS (aA.norm ?_)))))
  refine eP <| mv Y <| ev (Ev.add Y Y (eX.mk (by omega) (by omega))) <| aR Y <| eT ?_
  exact aA.ag ⟨(k + 1), Y, Y, by omega, by exact gP (q := fun y => pX y = true) hall hx1 (by rw [List.take_of_length_le (by omega)] at Zb; obtain ⟨⟨⟨⟨p1, p2⟩, p3⟩, p4⟩, p5⟩ := S9; unfold pX; simp [Zb]; omega), by rw [tF (zn hx1) SX]; obtain ⟨⟨⟨⟨p1, p2⟩, p3⟩, p4⟩, p5⟩ := S9; simp [p5]; omega, (K5.rm s0)⟩ rfl (by omega)
 replace iL := of_decide_eq_false iL
 refine WP.exit (aA.aF (aA.aF (aA.bS (aA.norm ?_))))
 refine rg <| aR Y <| dn ?_
 refine WP.ret (aA.aD Y Y Y ?_)
 have hq4 : (true : Bool) = (jA l) := by symm; rw [List.take_of_length_le (by omega)] at hall; rw [List.take_of_length_le (by simp; omega)] at SX; exact j4.2 ⟨hall, by omega, SX⟩
 exact ⟨by rw [← hq4] <;> rfl, K1⟩
theorem O5 {S0 : Nat → Prop} (w : World) {d9 : an3} {eu : Nat} {l : List AChunk} (dN : Sl tChunk S0 w d9 eu l) :
    bY Tryz.prog 104 #[.slice d9 l.length eu] w fun v w' => ∃ (A0 : an3) (c0 : Nat), v = .slice A0 ((iw l).length) c0 ∧ Hp w S0 w' [fM tChunk A0 c0 (iw l)] := by
 refine WP.enter Tryz.func104 Y Tryz.ntmps104 Y ?_
 have H0 := Hp.init w S0
 have iJ := dN.aN
 refine rg <| aR Y <| dn <| rg <| mv Y ?_
 refine C0 H0 Y Y Y Xb (BF _ (H0.a dN).any) fun w1 K1 => ?_
 refine aR Y <| dn <| WP.seq <| rg <| mv Y <| ev (Ev.not Y) <| dn ?_
 refine WP.aG Y (fun OE => ?_) (fun OE => ?_)
 ·
  try simp only [an4, an5, an6, an7, an8, an9, aoa, aob] at OE
  refine rg <| aR Y <| dn ?_
  refine WP.ret (aA.aP (aA.aD Y Y Y ?_))
  have H1 := K1.push (Sl.none_ tChunk _ _)
  have hq1 : (([] : List AChunk) : List AChunk) = (iw l) := by unfold iw; rw [if_neg (by rw [OE]; decide)]
  have H2 := (hq1 ▸ H1 : Hp w S0 w1 (fM tChunk none 0 (iw l) :: []))
  exact ⟨none, 0, by rw [← hq1] <;> rfl, H2⟩
 try simp only [an4, an5, an6, an7, an8, an9, aoa, aob] at OE
 refine WP.skip (aA.norm ?_)
 refine rg <| mv Y <| aR Y <| dn ?_
 refine WP.ret (aA.aD Y Y Y ?_)
 have H3 := K1.push (K1.a dN)
 have hq2 : (l : List AChunk) = (iw l) := by unfold iw; rw [if_pos OE]
 have H4 := (hq2 ▸ H3 : Hp w S0 w1 [fM tChunk d9 eu (iw l)])
 exact ⟨d9, eu, by rw [← hq2] <;> rfl, H4⟩
theorem Xe {S0 : Nat → Prop} (w : World) {d9 : an3} {eu : Nat} {l : List AChunk} (dN : Sl tChunk S0 w d9 eu l) (id : Int) :
    bY Tryz.prog 105 #[.slice d9 l.length eu, .int .i64 id] w fun v w' => v = .int .i64 (idxOf (fun (y : AChunk) => decide (y.ID = id)) l) ∧ Hp w S0 w' [] := by
 refine WP.enter Tryz.func105 Y Tryz.ntmps105 Y ?_
 have H0 := Hp.init w S0
 have iJ := dN.aN
 refine rg <| aR Y <| dn <| WP.seq <| rg <| aR Y <| dn <| WP.block <| Lp H0 (fun l0 rk mJ lJ wJ => ∃ (k : Nat), lJ = (5, .int .i64 ((k : Nat) : Int)) :: l0 ∧ mJ = l.length - k ∧ k ≤ l.length ∧ (∀ y ∈ l.take k, (fun (y : AChunk) => decide (y.ID = id)) y = false) ∧ Hp w S0 wJ rk) ⟨0, Y, Y, Nat.zero_le _, by simp, H0⟩ rfl ?_
 rintro _ _ w1 ⟨k, rfl, rfl, hk, hno, K1⟩
 refine WP.seq <| rg <| mv Y <| mv Y <| ev (Ev.len Tryz.underlying23 Y) <| ev (Ev.lss Y Y) <| dn ?_
 refine WP.aG Y (fun jE => ?_) (fun jE => ?_)
 ·
  replace jE := of_decide_eq_true jE
  refine WP.skip (aA.norm ?_)
  refine WP.seq <| WP.block <| rg <| mv Y <| mv Y ?_
  obtain ⟨x1, hx1⟩ := get_some (xs := l) (i := k) (by omega)
  refine ev (Ev.index (i := k) Tryz.underlying23 gu Y Y Y (aC hx1) ((K1.a dN).some_ hx1)) <| ev (Ev.field gI Y (bJ _ _ _)) ?_
  obtain ⟨B1, d1, kL, hi1⟩ := AChunk.op (dN.row hx1)
  refine ev (Ev.aZ bf Y ((fun j u hu => K1.ext.cell (kL j u hu)) 0 _ Y)) <| mv Y <| ev (Ev.eql Y Y) <| dn ?_
  refine WP.aG Y (fun hc18 => ?_) (fun hc18 => ?_)
  ·
   replace hc18 := of_decide_eq_true hc18
   refine rg <| mv Y <| aR Y <| dn ?_
   refine WP.ret (aA.bW (aA.aP (aA.aP (aA.bW (aA.aP (aA.aD Y Y Y ?_))))))
   have hq1 : (((k : Nat) : Int) : Int) = (idxOf (fun (y : AChunk) => decide (y.ID = id)) l) := by exact (jU hno hx1 (by simp; omega)).symm
   exact ⟨by rw [hq1] <;> rfl, K1⟩
  replace hc18 := of_decide_eq_false hc18
  refine WP.skip (aA.aS (aA.norm ?_))
  refine eP <| mv Y <| ev (Ev.add Y Y (eX.mk (by omega) (by omega))) <| aR Y <| eT ?_
  exact aA.ag ⟨(k + 1), Y, Y, by omega, by exact gP (q := fun y => decide (y.ID = id) = false) hno hx1 (by simp; omega), K1⟩ rfl (by omega)
 replace jE := of_decide_eq_false jE
 refine WP.exit (aA.aF (aA.aF (aA.bS (aA.norm ?_))))
 refine rg <| aR Y <| dn ?_
 refine WP.ret (aA.aD Y Y Y ?_)
 have hq2 : ((-1) : Int) = (idxOf (fun (y : AChunk) => decide (y.ID = id)) l) := by exact (kI (jf hno (by omega))).symm
 exact ⟨by rw [← hq2] <;> rfl, K1⟩
theorem vw {S0 : Nat → Prop} (w : World) {QI : an3} {QJ : Nat} {x : List AChunk} (QK : Sl tChunk S0 w QI QJ x) (id : Int) :
    bY Tryz.prog 49 #[.slice QI x.length QJ, .int .i64 id] w fun v w' => ∃ (B0_0 : an3) (qG : Nat), v = .tuple #[.agg #[.int .i64 ((aL x id).ID), .int .i64 ((aL x id).ay), .int .u32 ((aL x id).Sum), .slice B0_0 (((aL x id).av).length) qG], .bool (gG x id)] ∧ Hp w S0 w' [fM tInt B0_0 qG ((aL x id).av)] := by
 refine WP.enter Tryz.func49 Y Tryz.ntmps49 Y ?_
 have H0 := Hp.init w S0
 have Zc := QK.aN
 refine rg ?_
 refine al iI Y H0 fun g1 w1 K1 => ?_
 refine aR Y <| dn <| rg <| mv Y <| WL.call Y Y Y ac0 (O5 _ (K1.a QK)) Y ?_
 rintro _ w2 ⟨lD, lF, rfl, h2⟩
 have K2 := K1.c1 h2
 have DN := (K2.s s0).aN
 refine aR Y <| dn <| rg <| mv Y <| mv Y ?_
 refine C0 K2 Y Y Y ac1 (Xe _ (K2.s s0).any id) fun w3 K3 => ?_
 refine aR Y <| dn <| WP.seq <| rg <| mv Y <| ev (Ev.lss Y Y) <| dn ?_
 refine WP.aG Y (fun fE => ?_) (fun fE => ?_)
 ·
  replace fE := of_decide_eq_true fE
  refine rg <| ev (Ev.build (vs := []) (cs := [.int .i64 0, .int .i64 0, .int .u32 0, .slice none 0 0]) Y (by apply N9)) ?_
  refine iW Y Y Y gu K3 s1 Y Y fun w4 K4 => ?_
  refine aR Y <| dn ?_
  refine WP.ret (aA.aP (aA.oG Y ⟨_, _, Y, ⟨_, Y, eH (cs := [.int .i64 0, .int .i64 0, .int .u32 0, .slice none 0 0]) gQ Y (K4.x s0)⟩, ⟨_, _, Y, Y, Y⟩⟩ ?_))
  have hbf : gG x id = false := by rcases Qb x id with ⟨_, q⟩ | ⟨n, _, q, _⟩; exact q; omega
  have hq1 : ((⟨0, 0, 0, []⟩ : AChunk) : AChunk) = (aL x id) := by exact (DL hbf).symm
  have hq2 : (0 : Int) = (aL x id).ID := by rw [← hq1]
  have hq3 : (0 : Int) = (aL x id).ay := by rw [← hq1]
  have hq4 : (0 : Int) = (aL x id).Sum := by rw [← hq1]
  have H1 := K4.push (Sl.none_ tInt _ _)
  have kP : (([] : List Int) : List Int) = ((aL x id).av) := by rw [← hq1]
  have ny : (false : Bool) = (gG x id) := by exact hbf.symm
  exact ⟨none, 0, by first | (rw [← hq2, ← hq3, ← hq4, ← ny, ← kP] <;> rfl) | (rw [← kP, ← hq2, ← hq3, ← hq4, ← ny] <;> rfl), by rw [← kP]; exact ((H1.rm s2).rm s1)⟩
 replace fE := of_decide_eq_false fE
 refine WP.skip (aA.norm ?_)
 rcases Qb x id with ⟨q1, _⟩ | ⟨n0, xq, q1, hxq, q2, q3, q4, q5⟩
 ·
  omega
 have hv := qo (GK x _ (bV hxq))
 have hlq := aC hxq
 have hhq := UL (GK x _ (bV hxq))
 refine WP.re (t := 7) Y (congrArg (Value.int .i64) q1) <| rg <| mv Y <| mv Y <| ev (Ev.index (i := n0) Tryz.underlying23 gu Y Y Y (aC hxq) ((K3.s s0).some_ hxq)) ?_
 obtain ⟨B1, d1, kL, hi1⟩ := AChunk.op (K3.is s0 hxq)
 have H2 := K3.push hi1
 refine ev (Ev.loadRow (cs := [.int .i64 xq.ID, .int .i64 xq.ay, .int .u32 xq.Sum, .slice B1 xq.av.length d1]) gQ Y Y (oJ kL)) ?_
 refine iW Y Y Y gu H2 s2 Y Y fun w5 K5 => ?_
 refine aR Y <| dn ?_
 refine WP.ret (aA.oG Y ⟨_, _, Y, ⟨_, Y, eH (cs := [.int .i64 xq.ID, .int .i64 xq.ay, .int .u32 xq.Sum, .slice B1 xq.av.length d1]) gQ Y (K5.x s0)⟩, ⟨_, _, Y, Y, Y⟩⟩ ?_)
 have kT : (xq : AChunk) = (aL x id) := by exact q4.symm
 have hq8 : (xq.ID : Int) = (aL x id).ID := by rw [← kT]
 have uj : (xq.ay : Int) = (aL x id).ay := by rw [← kT]
 have jK : (xq.Sum : Int) = (aL x id).Sum := by rw [← kT]
 have hq11 : (xq.av : List Int) = ((aL x id).av) := by rw [← kT]
 have hq12 : (true : Bool) = (gG x id) := by exact q3.symm
 exact ⟨B1, d1, by first | (rw [hq8, uj, jK, hq11, ← hq12] <;> rfl) | (rw [hq11, hq8, uj, jK, ← hq12] <;> rfl), by rw [← hq11]; exact ((K5.rm s2).rm s0)⟩
theorem Tc {S0 : Nat → Prop} (w : World) (a : AChunk) {Xf : an3} {Xg : Nat} (ac4 : Sl tInt S0 w Xf Xg a.av) (b : AChunk) {Xh : an3} {Xi : Nat} (ac5 : Sl tInt S0 w Xh Xi b.av) :
    bY Tryz.prog 57 #[.agg #[.int .i64 a.ID, .int .i64 a.ay, .int .u32 a.Sum, .slice Xf a.av.length Xg], .agg #[.int .i64 b.ID, .int .i64 b.ay, .int .u32 b.Sum, .slice Xh b.av.length Xi]] w fun v w' => v = .bool (decide (a = b)) ∧ Hp w S0 w' [] := by
 refine WP.enter Tryz.func57 Y Tryz.ntmps57 Y ?_
 have H0 := Hp.init w S0
 refine rg ?_
 refine bx Y Y H0 fun g1 w1 K1 => ?_
 refine bx Y Y K1 fun g2 w2 K2 => ?_
 refine aR Y <| dn <| rg <| ev (Ev.field (q := ⟨g1, 3, none⟩) fT Y Y) <| ev (Ev.aj gK Y (K2.x s1) Y) <| ev (Ev.field (q := ⟨g2, 3, none⟩) fT Y Y) <| ev (Ev.aj gK Y (K2.x s0) Y) ?_
 refine C0 K2 Y Y Y ac2 (YA _ (K2.a ac4).any (K2.a ac5).any) fun w3 K3 => ?_
 refine aR Y <| dn <| rg <| mv Y <| mv Y ?_
 refine WL.dR 6 18 ((decide (a.av = b.av)) && (decide (a.ID = b.ID))) ?_ ?_
 ·
  cases ajp : decide (a.av = b.av) with
  | true =>
   have alo := of_decide_eq_true ajp
   refine WL.bF Y (Ev.field (q := ⟨g1, 0, none⟩) gI Y Y) Y <| WL.bF Y (Ev.aj bf Y (K3.x s1) Y) Y <| WL.bF Y (Ev.field (q := ⟨g2, 0, none⟩) gI Y Y) Y ?_
   refine WL.bF Y (Ev.aj bf Y (K3.x s0) Y) Y <| WL.bF Y (Ev.eql Y Y) Y <| ev (Ev.bq Y Y) ?_
   exact WL.bM Y
  | false =>
   refine WL.pass Y Y Y <| WL.pass Y Y Y <| WL.pass Y Y Y <| WL.pass Y Y Y <| WL.pass Y Y Y <| ev (Ev.bn Y Y) ?_
   exact WL.bM Y
 refine mv Y ?_
 refine WL.dR 6 25 (((decide (a.av = b.av)) && (decide (a.ID = b.ID))) && (decide (a.ay = b.ay))) ?_ ?_
 ·
  cases Je : ((decide (a.av = b.av)) && (decide (a.ID = b.ID))) with
  | true =>
   have VK := Je
   try simp only [Bool.and_eq_true, Bool.and_eq_false_imp, decide_eq_true_eq, decide_eq_false_iff_not] at VK
   refine WL.bF Y (Ev.field (q := ⟨g1, 1, none⟩) kZ Y Y) Y <| WL.bF Y (Ev.aj bf Y (K3.x s1) Y) Y <| WL.bF Y (Ev.field (q := ⟨g2, 1, none⟩) kZ Y Y) Y ?_
   refine WL.bF Y (Ev.aj bf Y (K3.x s0) Y) Y <| WL.bF Y (Ev.eql Y Y) Y <| ev (Ev.bq Y Y) ?_
   exact WL.bM Y
  | false =>
   refine WL.pass Y Y Y <| WL.pass Y Y Y <| WL.pass Y Y Y <| WL.pass Y Y Y <| WL.pass Y Y Y <| ev (Ev.bn Y Y) ?_
   exact WL.bM Y
 refine mv Y ?_
 refine WL.dR 6 32 ((((decide (a.av = b.av)) && (decide (a.ID = b.ID))) && (decide (a.ay = b.ay))) && (decide (a.Sum = b.Sum))) ?_ ?_
 ·
  cases MB : (((decide (a.av = b.av)) && (decide (a.ID = b.ID))) && (decide (a.ay = b.ay))) with
  | true =>
   have Ht := MB
   try simp only [Bool.and_eq_true, Bool.and_eq_false_imp, decide_eq_true_eq, decide_eq_false_iff_not] at Ht
   refine WL.bF Y (Ev.field (q := ⟨g1, 2, none⟩) rH Y Y) Y <| WL.bF Y (Ev.aj BP Y (K3.x s1) Y) Y <| WL.bF Y (Ev.field (q := ⟨g2, 2, none⟩) rH Y Y) Y ?_
   refine WL.bF Y (Ev.aj BP Y (K3.x s0) Y) Y <| WL.bF Y (Ev.eql Y Y) Y <| ev (Ev.bq Y Y) ?_
   exact WL.bM Y
  | false =>
   refine WL.pass Y Y Y <| WL.pass Y Y Y <| WL.pass Y Y Y <| WL.pass Y Y Y <| WL.pass Y Y Y <| ev (Ev.bn Y Y) ?_
   exact WL.bM Y
 refine aR Y <| dn ?_
 refine WP.ret (aA.aD Y Y Y ?_)
 have hq1 : (((((decide (a.av = b.av)) && (decide (a.ID = b.ID))) && (decide (a.ay = b.ay))) && (decide (a.Sum = b.Sum))) : Bool) = (decide (a = b)) := by exact abg a b
 exact ⟨by rw [hq1] <;> rfl, K3.z⟩
theorem O6 {S0 : Nat → Prop} (w : World) {Gz : an3} {GA : Nat} {a : List AChunk} (uD : Sl tChunk S0 w Gz GA a) {GD : an3} {GH : Nat} {b : List AChunk} (uE : Sl tChunk S0 w GD GH b) :
    bY Tryz.prog 20 #[.slice Gz a.length GA, .slice GD b.length GH] w fun v w' => v = .bool (decide (a = b)) ∧ Hp w S0 w' [] := by
 refine WP.enter Tryz.func20 Y Tryz.ntmps20 Y ?_
 have H0 := Hp.init w S0
 have RI := uD.aN
 have RJ := uE.aN
 refine rg <| aR Y <| dn <| WP.seq <| rg <| mv Y <| ev (Ev.len Tryz.underlying23 Y) <| mv Y <| ev (Ev.len Tryz.underlying23 Y) <| ev (Ev.neq Y Y) <| dn ?_
 refine WP.aG Y (fun fK => ?_) (fun fK => ?_)
 ·
  replace fK := gJ fK
  refine rg <| aR Y <| dn ?_
  refine WP.ret (aA.aP (aA.aD Y Y Y ?_))
  have hq1 : (false : Bool) = (decide (a = b)) := by symm; rw [decide_eq_false_iff_not]; rintro rfl; exact fK rfl
  exact ⟨by rw [← hq1] <;> rfl, H0⟩
 replace fK := gD fK
 refine WP.skip (aA.norm ?_)
 refine WP.seq <| rg <| aR Y <| dn <| WP.block <| Lp H0 (fun l0 rk mJ lJ wJ => ∃ (k : Nat), lJ = (5, .int .i64 ((k : Nat) : Int)) :: l0 ∧ mJ = a.length - k ∧ k ≤ a.length ∧ (a.take k = b.take k) ∧ Hp w S0 wJ rk) ⟨0, Y, Y, Nat.zero_le _, by simp, H0⟩ rfl ?_
 rintro _ _ w1 ⟨k, rfl, rfl, hk, hno, K1⟩
 refine WP.seq <| rg <| mv Y <| mv Y <| ev (Ev.len Tryz.underlying23 Y) <| ev (Ev.lss Y Y) <| dn ?_
 refine WP.aG Y (fun qL => ?_) (fun qL => ?_)
 ·
  replace qL := of_decide_eq_true qL
  refine WP.skip (aA.norm ?_)
  refine WP.seq <| WP.block <| WP.draw (by kernel_rfl) (by kernel_rfl) <| WQ.ev (Ev.move Y) Y <| WQ.ev (Ev.move Y) Y ?_
  obtain ⟨x1, hx1⟩ := get_some (xs := a) (i := k) (by omega)
  refine WQ.ev (Ev.index (i := k) Tryz.underlying23 gu Y Y Y (aC hx1) ((K1.a uD).some_ hx1)) Y ?_
  obtain ⟨B1, d1, kL, hi1⟩ := AChunk.op (uD.row hx1)
  refine WQ.ev (Ev.loadRow (cs := [.int .i64 x1.ID, .int .i64 x1.ay, .int .u32 x1.Sum, .slice B1 x1.av.length d1]) gQ Y Y (oJ (fun j u hu => K1.ext.cell (kL j u hu)))) Y ?_
  refine WQ.ev (Ev.move Y) Y <| WQ.ev (Ev.move Y) Y ?_
  obtain ⟨x2, hx2⟩ := get_some (xs := b) (i := k) (by omega)
  refine WQ.ev (Ev.index (i := k) Tryz.underlying23 gu Y Y Y (aC hx2) ((K1.a uE).some_ hx2)) Y ?_
  obtain ⟨B2, d2, Oc, hi2⟩ := AChunk.op (uE.row hx2)
  refine WQ.ev (Ev.loadRow (cs := [.int .i64 x2.ID, .int .i64 x2.ay, .int .u32 x2.Sum, .slice B2 x2.av.length d2]) gQ Y Y (oJ (fun j u hu => K1.ext.cell (Oc j u hu)))) Y ?_
  refine WQ.call (v := .bool (decide (x1 = x2))) Y Y Y af4 (fun wq eq => (Tc wq x1 ((K1.a hi1).any.ext eq) x2 ((K1.a hi2).any.ext eq)).mono (by rintro _ _ ⟨rfl, hq2⟩; exact ⟨rfl, hq2.ext⟩)) rfl ?_
  refine WQ.ev (Ev.assign Y) Y ?_
  refine WQ.done fun w2 e2 => ?_
  have K2 := K1.grow e2
  refine rg <| mv Y <| ev (Ev.not Y) <| dn ?_
  refine WP.aG Y (fun hc28 => ?_) (fun hc28 => ?_)
  ·
   replace hc28 := gJ hc28
   refine rg <| aR Y <| dn ?_
   refine WP.ret (aA.bW (aA.aP (aA.aP (aA.bW (aA.aP (aA.aD Y Y Y ?_))))))
   have hq2 : (false : Bool) = (decide (a = b)) := by symm; rw [decide_eq_false_iff_not]; exact YF hx1 hx2 (by simpa using hc28)
   exact ⟨by rw [← hq2] <;> rfl, K2⟩
  replace hc28 := gD hc28
  refine WP.skip (aA.aS (aA.norm ?_))
  refine eP <| mv Y <| ev (Ev.add Y Y (eX.mk (by omega) (by omega))) <| aR Y <| eT ?_
  exact aA.ag ⟨(k + 1), Y, Y, by omega, by exact IX hno hx1 hx2 hc28, K2⟩ rfl (by omega)
 replace qL := of_decide_eq_false qL
 refine WP.exit (aA.aF (aA.aF (aA.bS (aA.norm ?_))))
 refine rg <| aR Y <| dn ?_
 refine WP.ret (aA.aD Y Y Y ?_)
 have hq3 : (true : Bool) = (decide (a = b)) := by symm; rw [decide_eq_true_iff]; exact KU hno (by omega) (by omega)
 exact ⟨by rw [← hq3] <;> rfl, K1⟩
end Go.Proofs.YtjcklpooaaaglaaGreat
set_option maxRecDepth 4000
set_option linter.all false
namespace Go.Proofs.YtjcklpooaaaglaaGreat
open Go.RowKit
theorem ac6 : aM Tryz.prog 191 := fun _ _ => by kernel_rfl
theorem ac7 : aM Tryz.prog 183 := fun _ _ => by kernel_rfl
theorem JL : aM Tryz.prog 151 := fun _ _ => by kernel_rfl
theorem Cm : aM Tryz.prog 26 := fun _ _ => by kernel_rfl
theorem Td {S0 : Nat → Prop} (w : World) (n : ANode) :
    bY Tryz.prog 191 #[.agg #[.int .i64 n.ID, .int .i64 n.dA, .int .i64 n.fI, .int .i64 n.dz]] w fun v w' => v = .bool (sD n) ∧ Hp w S0 w' [] := by
 refine WP.enter Tryz.func191 Y Tryz.ntmps191 Y ?_
 have H0 := Hp.init w S0
 refine rg ?_
 refine bx Y Y H0 fun g1 w1 K1 => ?_
 refine aR Y <| dn <| rg <| ev (Ev.field (q := ⟨g1, 0, none⟩) dV Y Y) <| ev (Ev.aj bf Y (K1.x s0) Y) <| ev (Ev.geq Y Y) <| mv Y ?_
 refine WL.dR 4 10 ((decide (1 ≤ n.ID)) && (decide (n.ID ≤ 16))) ?_ ?_
 ·
  cases hb6 : decide (1 ≤ n.ID) with
  | true =>
   have YH := of_decide_eq_true hb6
   refine WL.bF Y (Ev.field (q := ⟨g1, 0, none⟩) dV Y Y) Y <| WL.bF Y (Ev.aj bf Y (K1.x s0) Y) Y <| WL.bF Y (Ev.leq Y Y) Y ?_
   refine ev (Ev.bq Y Y) ?_
   exact WL.bM Y
  | false =>
   refine WL.pass Y Y Y <| WL.pass Y Y Y <| WL.pass Y Y Y <| ev (Ev.bn Y Y) ?_
   exact WL.bM Y
 refine mv Y ?_
 refine WL.dR 4 15 (((decide (1 ≤ n.ID)) && (decide (n.ID ≤ 16))) && (decide (1 ≤ n.dA))) ?_ ?_
 ·
  cases AX : ((decide (1 ≤ n.ID)) && (decide (n.ID ≤ 16))) with
  | true =>
   have tJ := AX
   try simp only [Bool.and_eq_true, Bool.and_eq_false_imp, decide_eq_true_eq, decide_eq_false_iff_not] at tJ
   refine WL.bF Y (Ev.field (q := ⟨g1, 1, none⟩) l7 Y Y) Y <| WL.bF Y (Ev.aj bf Y (K1.x s0) Y) Y <| WL.bF Y (Ev.geq Y Y) Y ?_
   refine ev (Ev.bq Y Y) ?_
   exact WL.bM Y
  | false =>
   refine WL.pass Y Y Y <| WL.pass Y Y Y <| WL.pass Y Y Y <| ev (Ev.bn Y Y) ?_
   exact WL.bM Y
 refine mv Y ?_
 refine WL.dR 4 20 ((((decide (1 ≤ n.ID)) && (decide (n.ID ≤ 16))) && (decide (1 ≤ n.dA))) && (decide (n.dA ≤ 8))) ?_ ?_
 ·
  cases CO : (((decide (1 ≤ n.ID)) && (decide (n.ID ≤ 16))) && (decide (1 ≤ n.dA))) with
  | true =>
   have yB := CO
   try simp only [Bool.and_eq_true, Bool.and_eq_false_imp, decide_eq_true_eq, decide_eq_false_iff_not] at yB
   refine WL.bF Y (Ev.field (q := ⟨g1, 1, none⟩) l7 Y Y) Y <| WL.bF Y (Ev.aj bf Y (K1.x s0) Y) Y <| WL.bF Y (Ev.leq Y Y) Y ?_
   refine ev (Ev.bq Y Y) ?_
   exact WL.bM Y
  | false =>
   refine WL.pass Y Y Y <| WL.pass Y Y Y <| WL.pass Y Y Y <| ev (Ev.bn Y Y) ?_
   exact WL.bM Y
 refine mv Y ?_
 refine WL.dR 4 25 (((((decide (1 ≤ n.ID)) && (decide (n.ID ≤ 16))) && (decide (1 ≤ n.dA))) && (decide (n.dA ≤ 8))) && (decide (1 ≤ n.fI))) ?_ ?_
 ·
  cases F9 : ((((decide (1 ≤ n.ID)) && (decide (n.ID ≤ 16))) && (decide (1 ≤ n.dA))) && (decide (n.dA ≤ 8))) with
  | true =>
   have EN := F9
   try simp only [Bool.and_eq_true, Bool.and_eq_false_imp, decide_eq_true_eq, decide_eq_false_iff_not] at EN
   refine WL.bF Y (Ev.field (q := ⟨g1, 2, none⟩) pY Y Y) Y <| WL.bF Y (Ev.aj bf Y (K1.x s0) Y) Y <| WL.bF Y (Ev.geq Y Y) Y ?_
   refine ev (Ev.bq Y Y) ?_
   exact WL.bM Y
  | false =>
   refine WL.pass Y Y Y <| WL.pass Y Y Y <| WL.pass Y Y Y <| ev (Ev.bn Y Y) ?_
   exact WL.bM Y
 refine mv Y ?_
 refine WL.dR 4 30 ((((((decide (1 ≤ n.ID)) && (decide (n.ID ≤ 16))) && (decide (1 ≤ n.dA))) && (decide (n.dA ≤ 8))) && (decide (1 ≤ n.fI))) && (decide (n.fI ≤ 16))) ?_ ?_
 ·
  cases MB : (((((decide (1 ≤ n.ID)) && (decide (n.ID ≤ 16))) && (decide (1 ≤ n.dA))) && (decide (n.dA ≤ 8))) && (decide (1 ≤ n.fI))) with
  | true =>
   have Ht := MB
   try simp only [Bool.and_eq_true, Bool.and_eq_false_imp, decide_eq_true_eq, decide_eq_false_iff_not] at Ht
   refine WL.bF Y (Ev.field (q := ⟨g1, 2, none⟩) pY Y Y) Y <| WL.bF Y (Ev.aj bf Y (K1.x s0) Y) Y <| WL.bF Y (Ev.leq Y Y) Y ?_
   refine ev (Ev.bq Y Y) ?_
   exact WL.bM Y
  | false =>
   refine WL.pass Y Y Y <| WL.pass Y Y Y <| WL.pass Y Y Y <| ev (Ev.bn Y Y) ?_
   exact WL.bM Y
 refine mv Y ?_
 refine WL.dR 4 35 (((((((decide (1 ≤ n.ID)) && (decide (n.ID ≤ 16))) && (decide (1 ≤ n.dA))) && (decide (n.dA ≤ 8))) && (decide (1 ≤ n.fI))) && (decide (n.fI ≤ 16))) && (decide (0 ≤ n.dz))) ?_ ?_
 ·
  cases Xj : ((((((decide (1 ≤ n.ID)) && (decide (n.ID ≤ 16))) && (decide (1 ≤ n.dA))) && (decide (n.dA ≤ 8))) && (decide (1 ≤ n.fI))) && (decide (n.fI ≤ 16))) with
  | true =>
   have Xk := Xj
   try simp only [Bool.and_eq_true, Bool.and_eq_false_imp, decide_eq_true_eq, decide_eq_false_iff_not] at Xk
   refine WL.bF Y (Ev.field (q := ⟨g1, 3, none⟩) nU Y Y) Y <| WL.bF Y (Ev.aj bf Y (K1.x s0) Y) Y <| WL.bF Y (Ev.geq Y Y) Y ?_
   refine ev (Ev.bq Y Y) ?_
   exact WL.bM Y
  | false =>
   refine WL.pass Y Y Y <| WL.pass Y Y Y <| WL.pass Y Y Y <| ev (Ev.bn Y Y) ?_
   exact WL.bM Y
 refine mv Y ?_
 refine WL.dR 4 40 ((((((((decide (1 ≤ n.ID)) && (decide (n.ID ≤ 16))) && (decide (1 ≤ n.dA))) && (decide (n.dA ≤ 8))) && (decide (1 ≤ n.fI))) && (decide (n.fI ≤ 16))) && (decide (0 ≤ n.dz))) && (decide (n.dz ≤ 2))) ?_ ?_
 ·
  cases Vq : (((((((decide (1 ≤ n.ID)) && (decide (n.ID ≤ 16))) && (decide (1 ≤ n.dA))) && (decide (n.dA ≤ 8))) && (decide (1 ≤ n.fI))) && (decide (n.fI ≤ 16))) && (decide (0 ≤ n.dz))) with
  | true =>
   have LA := Vq
   try simp only [Bool.and_eq_true, Bool.and_eq_false_imp, decide_eq_true_eq, decide_eq_false_iff_not] at LA
   refine WL.bF Y (Ev.field (q := ⟨g1, 3, none⟩) nU Y Y) Y <| WL.bF Y (Ev.aj bf Y (K1.x s0) Y) Y <| WL.bF Y (Ev.leq Y Y) Y ?_
   refine ev (Ev.bq Y Y) ?_
   exact WL.bM Y
  | false =>
   refine WL.pass Y Y Y <| WL.pass Y Y Y <| WL.pass Y Y Y <| ev (Ev.bn Y Y) ?_
   exact WL.bM Y
 refine aR Y <| dn ?_
 refine WP.ret (aA.aD Y Y Y ?_)
 have hq1 : (((((((((decide (1 ≤ n.ID)) && (decide (n.ID ≤ 16))) && (decide (1 ≤ n.dA))) && (decide (n.dA ≤ 8))) && (decide (1 ≤ n.fI))) && (decide (n.fI ≤ 16))) && (decide (0 ≤ n.dz))) && (decide (n.dz ≤ 2))) : Bool) = (sD n) := by unfold sD; simp only [Bool.and_assoc]
 exact ⟨by rw [hq1] <;> rfl, (K1.rm s0)⟩
def Fe (z : Int) (l : List ANode) : Int := match l.getLast? with | some y => y.ID | none => z
theorem O7 (z : Int) (y a : ANode) (m : List ANode) : Fe z (y :: a :: m) = Fe y.ID (a :: m) := by
  unfold Fe
  rw [List.getLast?_cons_cons]
  cases h : (a :: m).getLast? with
  | none => simp at h
  | some _ => rfl
theorem Fg : ∀ (l : List ANode) (z : Int) (n : ANode), jQ z (l ++ [n]) = (jQ z l && !(!sD n || decide (n.ID ≤ Fe z l)))
  | [], z, n => by simp only [List.nil_append, jQ, Bool.and_true, Bool.true_and]; rfl
  | [y], z, n => by simp only [List.cons_append, List.nil_append, jQ, Bool.and_true]; rfl
  | y :: a :: m, z, n => by
    have ih := Fg (a :: m) y.ID n
    rw [O7, List.cons_append]
    show (_ && jQ y.ID ((a :: m) ++ [n])) = (_ && jQ y.ID (a :: m) && _)
    rw [ih, Bool.and_assoc]
theorem Na {l : List ANode} {k : Nat} {x : ANode} (h1 : ∀ n : ANode, sD n = true → 1 ≤ n.ID) (hx : l[k]? = some x) (h : jQ 0 (l.take k) = true) : jQ 0 (l.take (k + 1)) = !(!sD x || jX (l.map ANode.ID) k x.ID) := by
  rw [dK hx, Fg, h, Bool.true_and]
  congr 1
  cases k with
  | zero =>
    simp only [jX, Bool.or_false]
    cases ho : sD x with
    | false => rfl
    | true =>
      have := h1 x ho
      have e : Fe 0 (l.take 0) = 0 := rfl
      rw [e]; simp; omega
  | succ k =>
    obtain ⟨y, hy⟩ := get_some (xs := l) (i := k) (by have := aC hx; omega)
    have h2 : Fe 0 (l.take (k + 1)) = y.ID := by unfold Fe; rw [dK hy]; simp
    have h3 : (l.map ANode.ID)[k]? = some y.ID := by rw [List.getElem?_map, hy]; rfl
    rw [h2]; simp only [jX, h3]
theorem Ia : ∀ (l m : List ANode) (z : Int), jQ z (l ++ m) = true → jQ z l = true
  | [], _, _, _ => rfl
  | y :: l, m, z, h => by
    simp only [List.cons_append, jQ, Bool.and_eq_true] at h ⊢
    exact ⟨h.1, Ia l m _ h.2⟩
theorem Tf {l : List ANode} {k : Nat} (h : jQ 0 (l.take (k + 1)) = false) : jQ 0 l = false := by
  cases h2 : jQ 0 l with
  | false => rfl
  | true => rw [← List.take_append_drop (k + 1) l] at h2; rw [Ia _ _ _ h2] at h; cases h
theorem QL (n : ANode) (h : sD n = true) : 1 ≤ n.ID := by simp only [sD, Bool.and_eq_true, decide_eq_true_eq] at h; omega
theorem Ti {S0 : Nat → Prop} (w : World) {d9 : an3} {eu : Nat} {l : List ANode} (dN : Sl tNode S0 w d9 eu l) :
    bY Tryz.prog 183 #[.slice d9 l.length eu] w fun v w' => v = .bool (sF l) ∧ Hp w S0 w' [] := by
 refine WP.enter Tryz.func183 Y Tryz.ntmps183 Y ?_
 have H0 := Hp.init w S0
 have iJ := dN.aN
 refine rg <| aR Y <| dn <| WP.seq <| rg <| aR Y <| dn <| WP.block <| Lp H0 (fun l0 rk mJ lJ wJ => ∃ (k : Nat), lJ = (3, .int .i64 ((k : Nat) : Int)) :: l0 ∧ mJ = l.length - k ∧ k ≤ l.length ∧ (jQ 0 (l.take k) = true) ∧ Hp w S0 wJ rk) ⟨0, Y, Y, Nat.zero_le _, by rfl, H0⟩ rfl ?_
 rintro _ _ w1 ⟨k, rfl, rfl, hk, hr, K1⟩
 refine WP.seq <| rg <| mv Y <| mv Y <| ev (Ev.len Tryz.underlying22 Y) <| ev (Ev.lss Y Y) <| dn ?_
 refine WP.aG Y (fun hc8 => ?_) (fun hc8 => ?_)
 ·
  replace hc8 := of_decide_eq_true hc8
  refine WP.skip (aA.norm ?_)
  refine WP.seq <| WP.block <| rg <| mv Y <| mv Y ?_
  obtain ⟨x1, hx1⟩ := get_some (xs := l) (i := k) (by omega)
  refine ev (Ev.index (i := k) Tryz.underlying22 eO Y Y Y (aC hx1) ((K1.a dN).some_ hx1)) <| ev (Ev.loadRow kU Y Y ((K1.a dN).dx hx1)) ?_
  refine C0 K1 Y Y Y ac6 (Td (S0 := Any) _ x1) fun w2 K2 => ?_
  refine aR Y <| dn <| WP.draw (by kernel_rfl) (by kernel_rfl) <| WQ.ev (Ev.move Y) Y <| WQ.ev (Ev.not Y) Y <| WQ.ev (Ev.move Y) Y ?_
  refine WQ.dR 17 35 ((!(sD x1)) || (jX (l.map ANode.ID) k x1.ID)) ?_ ?_
  ·
   cases UD : (!(sD x1)) with
   | true =>
    refine WQ.pass Y Y Y <| WQ.pass Y Y Y <| WQ.pass Y Y Y <| WQ.pass Y Y Y <| WQ.pass Y Y Y <| WQ.pass Y Y Y <| WQ.pass Y Y Y <| WQ.pass Y Y Y <| WQ.pass Y Y Y <| WQ.pass Y Y Y <| WQ.pass Y Y Y <| WQ.pass Y Y Y <| WQ.pass Y Y Y <| WQ.pass Y Y Y ?_
    refine WQ.pass Y Y Y <| WQ.pass Y Y Y <| WQ.ev (Ev.bq Y Y) Y ?_
    exact WQ.bM Y
   | false =>
    refine WQ.bF Y (Ev.move Y) Y <| WQ.bF Y (Ev.gtr Y Y) Y <| WQ.bF Y (Ev.move Y) Y ?_
    refine WQ.dR 13 34 (jX (l.map ANode.ID) k x1.ID) ?_ ?_
    ·
     cases F9 : decide (0 < ((k : Nat) : Int)) with
     | true =>
      have EN := of_decide_eq_true F9
      refine WQ.bF Y (Ev.move Y) Y <| WQ.bF Y (Ev.move Y) Y <| WQ.bF Y (Ev.index (i := k) Tryz.underlying22 eO Y Y Y (aC hx1) ((K2.a dN).some_ hx1)) Y ?_
      refine WQ.bF Y (Ev.field dV Y (bJ _ _ _)) Y <| WQ.bF Y (Ev.aZ bf Y ((K2.a dN).aX (j := 0) hx1 Y)) Y <| WQ.bF Y (Ev.move Y) Y ?_
      refine WQ.bF Y (Ev.move Y) Y <| WQ.bF Y (Ev.Uh (a := k) (b := 1) Y Y Y (by omega) (by omega)) Y ?_
      obtain ⟨x2, hx2⟩ := get_some (xs := l) (i := k - 1) (by omega)
      refine WQ.bF Y (Ev.index (i := k - 1) Tryz.underlying22 eO Y Y Y (aC hx2) ((K2.a dN).some_ hx2)) Y <| WQ.bF Y (Ev.field dV Y (bJ _ _ _)) Y ?_
      refine WQ.bF Y (Ev.aZ bf Y ((K2.a dN).aX (j := 0) hx2 Y)) Y <| WQ.bF Y (Ev.leq Y Y) Y <| WQ.bF Y (Ev.bq Y Y) Y ?_
      refine WQ.re (t := 34) (u := .bool (decide (x1.ID ≤ x2.ID))) (v := .bool (jX (l.map ANode.ID) k x1.ID)) Y (congrArg Value.bool (by exact (AB (by omega) (by rw [List.getElem?_map, hx2]; rfl)).symm)) ?_
      exact WQ.bM Y
     | false =>
      refine WQ.pass Y Y Y <| WQ.pass Y Y Y <| WQ.pass Y Y Y <| WQ.pass Y Y Y <| WQ.pass Y Y Y <| WQ.pass Y Y Y <| WQ.pass Y Y Y <| WQ.pass Y Y Y <| WQ.pass Y Y Y <| WQ.pass Y Y Y <| WQ.pass Y Y Y <| WQ.pass Y Y Y <| WQ.bF Y (Ev.bn Y Y) Y <| WQ.re (t := 34) (u := .bool false) (v := .bool (jX (l.map ANode.ID) k x1.ID)) Y (congrArg Value.bool (by exact (wI (by have := of_decide_eq_false F9; omega)).symm)) ?_
      exact WQ.bM Y
    refine WQ.ev (Ev.bn Y Y) Y ?_
    exact WQ.bM Y
  refine WQ.done fun w3 e3 => ?_
  have K3 := K2.grow e3
  refine WP.aG Y (fun kX => ?_) (fun kX => ?_)
  ·
   refine rg <| aR Y <| dn ?_
   refine WP.ret (aA.bW (aA.aP (aA.aP (aA.bW (aA.aP (aA.aD Y Y Y ?_))))))
   have hq1 : (false : Bool) = (sF l) := by symm; unfold sF; exact Tf (k := k) (by rw [Na QL hx1 hr, kX]; rfl)
   exact ⟨by rw [← hq1] <;> rfl, K3⟩
  refine WP.skip (aA.aS (aA.norm ?_))
  refine eP <| mv Y <| ev (Ev.add Y Y (eX.mk (by omega) (by omega))) <| aR Y <| eT ?_
  exact aA.ag ⟨(k + 1), Y, Y, by omega, by rw [Na QL hx1 hr, kX]; rfl, K3⟩ rfl (by omega)
 replace hc8 := of_decide_eq_false hc8
 refine WP.exit (aA.aF (aA.aF (aA.bS (aA.norm ?_))))
 refine rg <| aR Y <| dn ?_
 refine WP.ret (aA.aD Y Y Y ?_)
 have hq2 : (true : Bool) = (sF l) := by symm; rw [List.take_of_length_le (by omega)] at hr; exact hr
 exact ⟨by rw [← hq2] <;> rfl, K1⟩
theorem vB {S0 : Nat → Prop} (w : World) {d9 : an3} {eu : Nat} {l : List ANode} (dN : Sl tNode S0 w d9 eu l) :
    bY Tryz.prog 151 #[.slice d9 l.length eu] w fun v w' => ∃ (A0 : an3) (c0 : Nat), v = .slice A0 ((dD l).length) c0 ∧ Hp w S0 w' [fM tNode A0 c0 (dD l)] := by
 refine WP.enter Tryz.func151 Y Tryz.ntmps151 Y ?_
 have H0 := Hp.init w S0
 have iJ := dN.aN
 refine rg <| aR Y <| dn <| rg <| mv Y ?_
 refine C0 H0 Y Y Y ac7 (Ti _ (H0.a dN).any) fun w1 K1 => ?_
 refine aR Y <| dn <| WP.seq <| rg <| mv Y <| ev (Ev.not Y) <| dn ?_
 refine WP.aG Y (fun OE => ?_) (fun OE => ?_)
 ·
  try simp only [an4, an5, an6, an7, an8, an9, aoa, aob] at OE
  refine rg <| aR Y <| dn ?_
  refine WP.ret (aA.aP (aA.aD Y Y Y ?_))
  have H1 := K1.push (Sl.none_ tNode _ _)
  have hq1 : (([] : List ANode) : List ANode) = (dD l) := by unfold dD; rw [if_neg (by rw [OE]; decide)]
  have H2 := (hq1 ▸ H1 : Hp w S0 w1 (fM tNode none 0 (dD l) :: []))
  exact ⟨none, 0, by rw [← hq1] <;> rfl, H2⟩
 try simp only [an4, an5, an6, an7, an8, an9, aoa, aob] at OE
 refine WP.skip (aA.norm ?_)
 refine rg <| mv Y <| aR Y <| dn ?_
 refine WP.ret (aA.aD Y Y Y ?_)
 have H3 := K1.push (K1.a dN)
 have hq2 : (l : List ANode) = (dD l) := by unfold dD; rw [if_pos OE]
 have H4 := (hq2 ▸ H3 : Hp w S0 w1 [fM tNode d9 eu (dD l)])
 exact ⟨d9, eu, by rw [← hq2] <;> rfl, H4⟩
theorem Ib {l : List ANode} {c : ANode} (hc : c ∈ dD l) : bZ l c.ID = true ∧ bL l c.ID = c := by
  have h1 : hits (fun (y : ANode) => dP y.ID c.ID) (dD l) = true := (wu (wM l) c.ID).2 ⟨c, hc, rfl⟩
  obtain ⟨x, hx, hk⟩ := pV (key := ANode.ID) h1
  refine ⟨h1, ?_⟩
  rw [uG h1 hx]
  exact UM (wM l) (bV hx) hc hk
theorem Ic {l : List ANode} {id : Int} (h : ∀ c ∈ dD l, c.ID ≠ id) : bZ l id = false ∧ bL l id = ⟨0, 0, 0, 0⟩ := by
  have h1 : hits (fun (y : ANode) => dP y.ID id) (dD l) = false := by
    cases hb : hits (fun (y : ANode) => dP y.ID id) (dD l) with
    | false => rfl
    | true =>
      obtain ⟨x, hx, hk⟩ := (wu (wM l) id).1 hb
      exact absurd hk (h x hx)
  exact ⟨h1, GN h1⟩
theorem nJ {S0 : Nat → Prop} (w : World) {QI : an3} {QJ : Nat} {x : List ANode} (QK : Sl tNode S0 w QI QJ x) (id : Int) :
    bY Tryz.prog 149 #[.slice QI x.length QJ, .int .i64 id] w fun v w' => v = .tuple #[.agg #[.int .i64 ((bL x id).ID), .int .i64 ((bL x id).dA), .int .i64 ((bL x id).fI), .int .i64 ((bL x id).dz)], .bool (bZ x id)] ∧ Hp w S0 w' [] := by
 refine WP.enter Tryz.func149 Y Tryz.ntmps149 Y ?_
 have H0 := Hp.init w S0
 have Zc := QK.aN
 have hf := xI x
 refine rg ?_
 refine al iM Y H0 fun g1 w1 K1 => ?_
 refine aR Y <| dn <| rg <| mv Y <| WL.call Y Y Y JL (vB _ (K1.a QK)) Y ?_
 rintro _ w2 ⟨lD, lF, rfl, h2⟩
 have K2 := K1.c1 h2
 have DN := (K2.s s0).aN
 refine aR Y <| dn <| WP.seq <| rg <| aR Y <| dn <| WP.block <| Lp K2 (fun l0 rk mJ lJ wJ => ∃ (k : Nat), lJ = (7, .int .i64 ((k : Nat) : Int)) :: l0 ∧ mJ = (dD x).length - k ∧ k ≤ (dD x).length ∧ (∀ y ∈ (dD x).take k, y.ID ≠ id) ∧ Hp w S0 wJ rk) ⟨0, Y, Y, Nat.zero_le _, by simp, K2⟩ rfl ?_
 rintro _ _ w3 ⟨k, rfl, rfl, hk, hno, K3⟩
 refine WP.seq <| rg <| mv Y <| mv Y <| ev (Ev.len Tryz.underlying22 Y) <| ev (Ev.lss Y Y) <| dn ?_
 refine WP.aG Y (fun kr => ?_) (fun kr => ?_)
 ·
  replace kr := of_decide_eq_true kr
  refine WP.skip (aA.norm ?_)
  refine WP.seq <| WP.block <| rg <| mv Y <| mv Y ?_
  obtain ⟨x1, hx1⟩ := get_some (xs := dD x) (i := k) (by omega)
  refine ev (Ev.index (i := k) Tryz.underlying22 eO Y Y Y (aC hx1) ((K3.s s0).some_ hx1)) <| ev (Ev.field dV Y (bJ _ _ _)) <| ev (Ev.aZ bf Y ((K3.s s0).aX (j := 0) hx1 Y)) ?_
  refine mv Y <| ev (Ev.eql Y Y) <| dn ?_
  refine WP.aG Y (fun hc22 => ?_) (fun hc22 => ?_)
  ·
   replace hc22 := of_decide_eq_true hc22
   refine rg <| mv Y <| mv Y <| ev (Ev.index (i := k) Tryz.underlying22 eO Y Y Y (aC hx1) ((K3.s s0).some_ hx1)) <| ev (Ev.loadRow kU Y Y ((K3.s s0).dx hx1)) ?_
   refine iW Y Y Y eO K3 s1 Y Y fun w4 K4 => ?_
   refine aR Y <| dn ?_
   refine WP.ret (aA.bW (aA.aP (aA.aP (aA.bW (aA.aP (aA.oG Y ⟨_, _, Y, ⟨_, Y, eH (cs := [.int .i64 x1.ID, .int .i64 x1.dA, .int .i64 x1.fI, .int .i64 x1.dz]) kU Y (K4.x s0)⟩, ⟨_, _, Y, Y, Y⟩⟩ ?_))))))
   have hq1 : (x1 : ANode) = (bL x id) := by have := Ib (bV hx1); rw [hc22] at this; exact this.2.symm
   have hq2 : (x1.ID : Int) = (bL x id).ID := by rw [← hq1]
   have hq3 : (x1.dA : Int) = (bL x id).dA := by rw [← hq1]
   have hq4 : (x1.fI : Int) = (bL x id).fI := by rw [← hq1]
   have kP : (x1.dz : Int) = (bL x id).dz := by rw [← hq1]
   have ny : (true : Bool) = (bZ x id) := by have := Ib (bV hx1); rw [hc22] at this; exact this.1.symm
   exact ⟨by rw [hq2, hq3, hq4, kP, ← ny] <;> rfl, K4.z⟩
  replace hc22 := of_decide_eq_false hc22
  refine WP.skip (aA.aS (aA.norm ?_))
  refine eP <| mv Y <| ev (Ev.add Y Y (eX.mk (by omega) (by omega))) <| aR Y <| eT ?_
  exact aA.ag ⟨(k + 1), Y, Y, by omega, by exact gP (q := fun y => y.ID ≠ id) hno hx1 (by omega), K3⟩ rfl (by omega)
 replace kr := of_decide_eq_false kr
 refine WP.exit (aA.aF (aA.aF (aA.bS (aA.norm ?_))))
 refine rg <| ev (Ev.build (vs := []) (cs := [.int .i64 0, .int .i64 0, .int .i64 0, .int .i64 0]) Y (by apply UR)) ?_
 refine iW Y Y Y eO K3 s1 Y Y fun w5 K5 => ?_
 refine aR Y <| dn ?_
 refine WP.ret (aA.oG Y ⟨_, _, Y, ⟨_, Y, eH (cs := [.int .i64 0, .int .i64 0, .int .i64 0, .int .i64 0]) kU Y (K5.x s0)⟩, ⟨_, _, Y, Y, Y⟩⟩ ?_)
 have kT : ((⟨0, 0, 0, 0⟩ : ANode) : ANode) = (bL x id) := by rw [List.take_of_length_le (by omega)] at hno; exact (Ic hno).2.symm
 have hq8 : (0 : Int) = (bL x id).ID := by rw [← kT]
 have uj : (0 : Int) = (bL x id).dA := by rw [← kT]
 have jK : (0 : Int) = (bL x id).fI := by rw [← kT]
 have hq11 : (0 : Int) = (bL x id).dz := by rw [← kT]
 have hq12 : (false : Bool) = (bZ x id) := by rw [List.take_of_length_le (by omega)] at hno; exact (Ic hno).1.symm
 exact ⟨by rw [← hq8, ← uj, ← jK, ← hq11, ← hq12] <;> rfl, K5.z⟩
theorem nQ {S0 : Nat → Prop} (w : World) {d9 : an3} {eu : Nat} {l : List Int} (dN : Sl tInt S0 w d9 eu l) (n : Int) :
    bY Tryz.prog 26 #[.slice d9 l.length eu, .int .i64 n] w fun v w' => v = .bool (l.contains n) ∧ Hp w S0 w' [] := by
 refine WP.enter Tryz.func26 Y Tryz.ntmps26 Y ?_
 have H0 := Hp.init w S0
 have iJ := dN.aN
 refine rg <| aR Y <| dn <| WP.seq <| rg <| aR Y <| dn <| WP.block <| Lp H0 (fun l0 rk mJ lJ wJ => ∃ (k : Nat), lJ = (5, .int .i64 ((k : Nat) : Int)) :: l0 ∧ mJ = l.length - k ∧ k ≤ l.length ∧ (∀ y ∈ l.take k, y ≠ n) ∧ Hp w S0 wJ rk) ⟨0, Y, Y, Nat.zero_le _, by simp, H0⟩ rfl ?_
 rintro _ _ w1 ⟨k, rfl, rfl, hk, hno, K1⟩
 refine WP.seq <| rg <| mv Y <| mv Y <| ev (Ev.len Tryz.underlying51 Y) <| ev (Ev.lss Y Y) <| dn ?_
 refine WP.aG Y (fun jE => ?_) (fun jE => ?_)
 ·
  replace jE := of_decide_eq_true jE
  refine WP.skip (aA.norm ?_)
  refine WP.seq <| WP.block <| rg <| mv Y <| mv Y ?_
  obtain ⟨x1, hx1⟩ := get_some (xs := l) (i := k) (by omega)
  refine ev (Ev.index (i := k) Tryz.underlying51 iC Y Y Y (aC hx1) ((K1.a dN).some_ hx1)) <| ev (Ev.aZ bf Y ((K1.a dN).aX (j := 0) hx1 Y)) ?_
  refine mv Y <| ev (Ev.eql Y Y) <| dn ?_
  refine WP.aG Y (fun hc17 => ?_) (fun hc17 => ?_)
  ·
   replace hc17 := of_decide_eq_true hc17
   refine rg <| aR Y <| dn ?_
   refine WP.ret (aA.bW (aA.aP (aA.aP (aA.bW (aA.aP (aA.aD Y Y Y ?_))))))
   have hq1 : (true : Bool) = (l.contains n) := by symm; rw [List.contains_iff_mem]; subst hc17; exact bV hx1
   exact ⟨by rw [← hq1] <;> rfl, K1⟩
  replace hc17 := of_decide_eq_false hc17
  refine WP.skip (aA.aS (aA.norm ?_))
  refine eP <| mv Y <| ev (Ev.add Y Y (eX.mk (by omega) (by omega))) <| aR Y <| eT ?_
  exact aA.ag ⟨(k + 1), Y, Y, by omega, by exact gP (q := fun y => y ≠ n) hno hx1 (by omega), K1⟩ rfl (by omega)
 replace jE := of_decide_eq_false jE
 refine WP.exit (aA.aF (aA.aF (aA.bS (aA.norm ?_))))
 refine rg <| aR Y <| dn ?_
 refine WP.ret (aA.aD Y Y Y ?_)
 have hq2 : (false : Bool) = (l.contains n) := by symm; rw [Bool.eq_false_iff]; intro h; rw [List.contains_iff_mem] at h; rw [List.take_of_length_le (by omega)] at hno; exact hno n h rfl
 exact ⟨by rw [← hq2] <;> rfl, K1⟩
theorem qR {S0 : Nat → Prop} (w : World) {eB : an3} {eD : Nat} {au : List AChunk} (eF : Sl tChunk S0 w eB eD au) (bO : Int) :
    bY Tryz.prog 101 #[.slice eB au.length eD, .int .i64 bO] w fun v w' => v = .int .i64 ((bQ au bO : Nat) : Int) ∧ Hp w S0 w' [] := by
 refine WP.enter Tryz.func101 Y Tryz.ntmps101 Y ?_
 have H0 := Hp.init w S0
 have oL := eF.aN
 have hq := fun k => List.length_filter_le (fun (c : AChunk) => c.av.contains bO) (au.take k)
 simp only [List.length_take] at hq
 refine rg <| aR Y <| dn <| rg <| aR Y <| dn <| WP.seq <| rg <| aR Y <| dn <| WP.block ?_
 have hq1 : (0 : Int) = ((bQ (au.take 0) bO : Nat) : Int) := by rfl
 refine WP.re (t := 5) Y (congrArg (Value.int .i64) hq1) <| Lp H0 (fun l0 rk mJ lJ wJ => ∃ (k : Nat), lJ = (5, .int .i64 ((bQ (au.take k) bO : Nat) : Int)) :: (6, .int .i64 ((k : Nat) : Int)) :: l0 ∧ mJ = au.length - k ∧ k ≤ au.length ∧ (bQ (au.take k) bO ≤ k) ∧ Hp w S0 wJ rk) ⟨0, Y, Y, Nat.zero_le _, by simp [bQ], H0⟩ rfl ?_
 rintro _ _ w1 ⟨k, rfl, rfl, hk, hqk, K1⟩
 refine WP.seq <| rg <| mv Y <| mv Y <| ev (Ev.len Tryz.underlying23 Y) <| ev (Ev.lss Y Y) <| dn ?_
 refine WP.aG Y (fun fK => ?_) (fun fK => ?_)
 ·
  replace fK := of_decide_eq_true fK
  refine WP.skip (aA.norm ?_)
  refine WP.seq <| WP.block <| rg <| mv Y <| mv Y ?_
  obtain ⟨x1, hx1⟩ := get_some (xs := au) (i := k) (by omega)
  refine ev (Ev.index (i := k) Tryz.underlying23 gu Y Y Y (aC hx1) ((K1.a eF).some_ hx1)) <| ev (Ev.field fT Y (bJ _ _ _)) ?_
  obtain ⟨B1, d1, kL, hi1⟩ := AChunk.op (eF.row hx1)
  refine ev (Ev.aZ gK Y ((fun j u hu => K1.ext.cell (kL j u hu)) 3 _ Y)) <| mv Y ?_
  refine C0 K1 Y Y Y Cm (nQ _ (K1.a hi1).any bO) fun w2 K2 => ?_
  refine aR Y <| dn <| rg <| mv Y <| dn ?_
  refine WP.aG Y (fun hc21 => ?_) (fun hc21 => ?_)
  ·
   refine eP <| mv Y <| ev (Ev.add Y Y (eX.mk (by omega) (by omega))) <| aR Y <| eT <| aA.aS (aA.norm ?_)
   refine eP <| mv Y <| ev (Ev.add Y Y (eX.mk (by omega) (by omega))) <| aR Y <| eT ?_
   have hq2 : (((bQ (au.take k) bO + 1 : Nat) : Int) : Int) = ((bQ (au.take (k + 1)) bO : Nat) : Int) := by unfold bQ; rw [fQ hx1, hc21]; simp
   refine aA.re (t := 5) Y (congrArg (Value.int .i64) hq2) ?_
   exact aA.ag ⟨(k + 1), Y, Y, by omega, by unfold bQ; have h8 := hq (k + 1); omega, K2⟩ rfl (by omega)
  refine WP.skip (aA.aS (aA.norm ?_))
  refine eP <| mv Y <| ev (Ev.add Y Y (eX.mk (by omega) (by omega))) <| aR Y <| eT ?_
  have hq3 : (((bQ (au.take k) bO : Nat) : Int) : Int) = ((bQ (au.take (k + 1)) bO : Nat) : Int) := by unfold bQ; rw [fQ hx1, hc21]; simp
  refine aA.re (t := 5) Y (congrArg (Value.int .i64) hq3) ?_
  exact aA.ag ⟨(k + 1), Y, Y, by omega, by unfold bQ; have h8 := hq (k + 1); omega, K2⟩ rfl (by omega)
 replace fK := of_decide_eq_false fK
 refine WP.exit (aA.aF (aA.aF (aA.bS (aA.norm ?_))))
 refine rg <| mv Y <| aR Y <| dn ?_
 refine WP.ret (aA.aD Y Y Y ?_)
 have hq4 : (bQ (au.take k) bO : Nat) = (bQ au bO) := by rw [List.take_of_length_le (by omega)]
 exact ⟨by rw [hq4] <;> rfl, K1⟩
end Go.Proofs.YtjcklpooaaaglaaGreat
