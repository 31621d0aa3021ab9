/- Texts that the statement needs, with short names. -/
import Derived.ProofKit
import Derived.OpenShut
import Derived.ShutString
import Derived.ChangeOld
import Derived.Deep.Slices
import Derived.Deep.Fields
import Derived.Shelf.Sort.Plain
import Derived.Shelf.Slices.In.SortNone
import Derived.Shelf.SlSortCmp.NoneTotal
import Derived.Ground.SlsfProg
import Derived.Test.YtjcklpooaaaglaaGreatvG0
import Derived.Test.YtjcklpooaaaglaaGreatProg
import Derived.Test.YtjcklpooaaaglaaGreatRows
import Derived.Test.YtjcklpooaaaglaaGreatvG1
import Derived.Test.YtjcklpooaaaglaaGreatvG2
set_option linter.all false
namespace Go.Proofs.YtjcklpooaaaglaaGreat
open Go.ChangeShapes Go.WideShapes Go.ChangeAt Go.RowKit Go.Deep
def Reads {α : Type} (P : Program) (e : TypeId) (τ : Ty α) (good : α → Prop) : Prop :=
  ∀ {H : Type} (enc : TypeId × Value → H) (w : World) (base : Nat) (spare : Nat → Bool) (held : Bool) (fuel : Nat) (cs : List Value) (x : DataW H × List MemPlace),
    DataW.trod enc P w base spare held fuel e cs = some x → ∃ y, τ.R Any w y cs ∧ good y
theorem in_i64 {x : Int} (h : (Lit.int .i64 x).wf = true) : InI64 x := by
  simp only [Lit.wf, Bool.and_eq_true, decide_eq_true_eq] at h
  have e1 : IntKind.i64.min = -9223372036854775808 := by decide
  have e2 : IntKind.i64.max = 9223372036854775807 := by decide
  rw [e1, e2] at h
  exact h
theorem in_u32 {x : Int} (h : (Lit.int .u32 x).wf = true) : TW x := by
  simp only [Lit.wf, Bool.and_eq_true, decide_eq_true_eq] at h
  have e1 : IntKind.u32.min = 0 := by decide
  have e2 : IntKind.u32.max = 4294967295 := by decide
  rw [e1, e2] at h
  exact h
section
variable {H : Type} {enc : TypeId × Value → H} {P : Program} {w : World} {base : Nat} {spare : Nat → Bool} {held : Bool}
theorem wF {α : Type} {q : Nat → α → Prop} : ∀ (n : Nat), (∀ i, i < n → ∃ x, q i x) → ∃ xs : List α, xs.length = n ∧ ∀ (i : Nat) (x : α), xs[i]? = some x → q i x
  | 0, _ => ⟨[], rfl, fun i x hx => by simp at hx⟩
  | n + 1, h => by
    obtain ⟨xs, h1, h2⟩ := wF n (fun i hi => h i (by omega))
    obtain ⟨x, hx⟩ := h n (by omega)
    refine ⟨xs ++ [x], by simp [h1], fun i y hy => ?_⟩
    by_cases hi : i < xs.length
    · rw [List.getElem?_append_left hi] at hy
      exact h2 i y hy
    · rw [List.getElem?_append_right (by omega)] at hy
      have h3 : i - xs.length = 0 := by
        rcases Nat.eq_zero_or_pos (i - xs.length) with h | h
        · exact h
        · rw [List.getElem?_eq_none (by simp; omega)] at hy; cases hy
      rw [h3] at hy
      simp at hy
      subst hy
      have : i = n := by omega
      subst this
      exact hx
theorem Reads.slice {α : Type} {e t : TypeId} {τ : Ty α} {good : α → Prop} (hr : Reads P e τ good) (hk : P.cellsOf e = τ.k) (ht : P.underlying t = some (.slice e)) {fuel : Nat} {cs : List Value} {x : DataW H × List MemPlace} (h : DataW.trod enc P w base spare held fuel t cs = some x) :
    ∃ (A : an3) (xs : List α) (c : Nat), cs = [.slice A xs.length c] ∧ Sl τ Any w A c xs ∧ ∀ y ∈ xs, good y := by
  rcases open_slice ht h with ⟨h1, _⟩ | ⟨a, len, cap, m, n, D, Pl, h1, _, h3, h4, h5, _, h7⟩
  · exact ⟨none, [], 0, h1, Sl.none_ τ _ w, fun y hy => by simp at hy⟩
  · have hm : len ≤ m := by rw [h5]; split <;> omega
    obtain ⟨xs, hl, hx⟩ := wF (q := fun i y => (∃ cs', τ.R Any w y cs' ∧ ∀ j u, cs'[j]? = some u → w.cell? (a.add (i * τ.k + j)) = some u) ∧ good y) len (fun i hi => by
      obtain ⟨cs', hc, ht'⟩ := h7 i (by omega)
      obtain ⟨y, hy, hg⟩ := hr _ _ _ _ _ _ _ _ ht'
      obtain ⟨_, hcl, hat⟩ := World.cells?_some hc
      refine ⟨y, ⟨cs', hy, fun j u hu => ?_⟩, hg⟩
      have hj : j < P.cellsOf e := by
        have := (List.getElem?_eq_some_iff.1 hu).1
        omega
      have := hat j hj
      rw [Proofs.YtjcklpooaaaglaaGreat.bJ, hk] at this
      exact this.trans hu)
    subst hl
    refine ⟨some a, xs, cap, h1, ⟨h3, h4, (fun h => by cases h), fun i y hy => ⟨trivial, (hx i y hy).1⟩⟩, fun y hy => ?_⟩
    obtain ⟨i, hi⟩ := List.getElem?_of_mem hy
    exact (hx i y hi).2
theorem reads_int {e : TypeId} (ht : P.underlying e = some (.int .i64)) {τ : Ty Int} (hR : ∀ w x, τ.R Any w x [.int .i64 x]) : Reads P e τ InI64 := fun _ _ _ _ _ _ _ _ h => by
  obtain ⟨n, h1, _, h3⟩ := DataW.trod_int ht h
  subst h1
  exact ⟨n, hR _ n, in_i64 h3⟩
theorem arg_struct {α : Type} {t : TypeId} {fs : Array Field} {τ : Ty α} {good : α → Prop} (hr : Reads P t τ good) (hs : P.underlying t = some (.struct fs)) {r : Reach} {b0 : Nat} {v : Value} {d : DataW H} {p : List MemPlace} (hv : Value.okWide P w r b0 t v) (h : DataW.Trod enc P w base spare held t v d p) :
    ∃ (x : α) (cs : List Value), v = .agg cs.toArray ∧ τ.R Any w x cs ∧ good x := by
  obtain ⟨cs, rfl, _⟩ := okWide_struct hs hv
  obtain ⟨fuel, hf⟩ := h
  obtain ⟨x, h1, h2⟩ := hr _ _ _ _ _ _ _ _ hf
  exact ⟨x, cs.toList, by simp, h1, h2⟩
theorem get_ok {α : Type} {xs : List α} {n i : Nat} (h : xs.length = n) (hi : i < n) : ∃ y, xs[i]? = some y := ⟨xs[i]'(by omega), List.getElem?_eq_getElem _⟩
end
theorem len_succ {cs : List Value} {n : Nat} (h : cs.length = n + 1) : ∃ c cs', cs = c :: cs' ∧ cs'.length = n := by
  cases cs with
  | nil => simp at h
  | cons c cs => exact ⟨c, cs, rfl, by simpa using h⟩
theorem len_zero {cs : List Value} (h : cs.length = 0) : cs = [] := List.eq_nil_of_length_eq_zero h
end Go.Proofs.YtjcklpooaaaglaaGreat
set_option linter.all false
namespace Go.Proofs.YtjcklpooaaaglaaGreat
open Go.Shelf
def Tryz.lays189_ren : Go.Shelf.Ren := ⟨fun | 189 => 190 | 125 => 188 | 257 => 203 | 128 => 201 | 129 => 202 | 294 => 209 | 295 => 210 | 296 => 211 | 297 => 212 | 298 => 213 | 299 => 214 | 216 => 215 | 300 => 216 | 301 => 217 | 328 => 219 | 329 => 205 | 330 => 206 | 331 => 220 | 332 => 221 | 215 => 164 | 343 => 222 | n => n, fun | 28 => 51 | 3 => 3 | 46 => 191 | 0 => 0 | 51 => 48 | 53 => 218 | 4 => 4 | 183 => 211 | 182 => 210 | 131 => 109 | 5 => 5 | 9 => 9 | 218 => 220 | 222 => 224 | 228 => 230 | 229 => 118 | n => n, fun | n => n⟩
theorem Tryz.lays189 : Go.Proofs.Lays.n189 Tryz.prog Tryz.lays189_ren := {
  mixed := by kernel_rfl
  f125 := Tryz.func188.trans (congrArg some (by kernel_rfl))
  f128 := Tryz.func201.trans (congrArg some (by kernel_rfl))
  f129 := Tryz.func202.trans (congrArg some (by kernel_rfl))
  f189 := Tryz.func190.trans (congrArg some (by kernel_rfl))
  f215 := Tryz.func164.trans (congrArg some (by kernel_rfl))
  f216 := Tryz.func215.trans (congrArg some (by kernel_rfl))
  f257 := Tryz.func203.trans (congrArg some (by kernel_rfl))
  f294 := Tryz.func209.trans (congrArg some (by kernel_rfl))
  f295 := Tryz.func210.trans (congrArg some (by kernel_rfl))
  f296 := Tryz.func211.trans (congrArg some (by kernel_rfl))
  f297 := Tryz.func212.trans (congrArg some (by kernel_rfl))
  f298 := Tryz.func213.trans (congrArg some (by kernel_rfl))
  f299 := Tryz.func214.trans (congrArg some (by kernel_rfl))
  f300 := Tryz.func216.trans (congrArg some (by kernel_rfl))
  f301 := Tryz.func217.trans (congrArg some (by kernel_rfl))
  f328 := Tryz.func219.trans (congrArg some (by kernel_rfl))
  f329 := Tryz.func205.trans (congrArg some (by kernel_rfl))
  f330 := Tryz.func206.trans (congrArg some (by kernel_rfl))
  f331 := Tryz.func220.trans (congrArg some (by kernel_rfl))
  f332 := Tryz.func221.trans (congrArg some (by kernel_rfl))
  f343 := Tryz.func222.trans (congrArg some (by kernel_rfl))
  t0 := Tryz.underlying0
  a0 := Tryz.isAgg0
  z0 := Tryz.sizeOf0
  v0 := Tryz.zeroValue0
  t3 := Tryz.underlying3
  a3 := Tryz.isAgg3
  z3 := Tryz.sizeOf3
  v3 := Tryz.zeroValue3
  t4 := Tryz.underlying4
  a4 := Tryz.isAgg4
  z4 := Tryz.sizeOf4
  v4 := Tryz.zeroValue4
  t5 := Tryz.underlying5
  a5 := Tryz.isAgg5
  z5 := Tryz.sizeOf5
  v5 := Tryz.zeroValue5
  t9 := Tryz.underlying9
  a9 := Tryz.isAgg9
  z9 := Tryz.sizeOf9
  v9 := Tryz.zeroValue9
  t28 := Tryz.underlying51
  a28 := Tryz.isAgg51
  z28 := Tryz.sizeOf51
  v28 := Tryz.zeroValue51
  t46 := Tryz.underlying191
  a46 := Tryz.isAgg191
  z46 := Tryz.sizeOf191
  v46 := Tryz.zeroValue191
  t51 := Tryz.underlying48
  a51 := Tryz.isAgg48
  z51 := Tryz.sizeOf48
  v51 := Tryz.zeroValue48
  t53 := Tryz.underlying218
  a53 := Tryz.isAgg218
  z53 := Tryz.sizeOf218
  v53 := Tryz.zeroValue218
  t131 := Tryz.underlying109
  a131 := Tryz.isAgg109
  z131 := Tryz.sizeOf109
  v131 := Tryz.zeroValue109
  t182 := Tryz.underlying210
  a182 := Tryz.isAgg210
  z182 := Tryz.sizeOf210
  v182 := Tryz.zeroValue210
  t183 := Tryz.underlying211
  a183 := Tryz.isAgg211
  z183 := Tryz.sizeOf211
  v183 := Tryz.zeroValue211
  t218 := Tryz.underlying220
  a218 := Tryz.isAgg220
  z218 := Tryz.sizeOf220
  v218 := Tryz.zeroValue220
  t222 := Tryz.underlying224
  a222 := Tryz.isAgg224
  z222 := Tryz.sizeOf224
  v222 := Tryz.zeroValue224
  t228 := Tryz.underlying230
  a228 := Tryz.isAgg230
  z228 := Tryz.sizeOf230
  v228 := Tryz.zeroValue230
  t229 := Tryz.underlying118
  a229 := Tryz.isAgg118
  z229 := Tryz.sizeOf118
  v229 := Tryz.zeroValue118 }
def Tryz.laysF6_ren : Go.Shelf.Ren := ⟨fun | 6 => 176 | 15 => 188 | 14 => 187 | 28 => 201 | 29 => 202 | 20 => 193 | 21 => 194 | 22 => 195 | 23 => 196 | 24 => 197 | 25 => 198 | 26 => 199 | 27 => 200 | 46 => 204 | 47 => 205 | 48 => 206 | 49 => 207 | 50 => 208 | 57 => 218 | n => n, fun | 22 => 22 | 24 => 63 | 25 => 202 | 3 => 3 | 39 => 191 | 0 => 0 | 53 => 48 | 55 => 218 | 4 => 4 | 46 => 211 | 45 => 210 | 50 => 109 | 5 => 5 | 9 => 9 | 66 => 220 | 70 => 224 | 76 => 230 | 77 => 118 | n => n, fun | n => n⟩
theorem Tryz.laysF6 : Go.Proofs.SlLaysF0.n6 Tryz.prog Tryz.laysF6_ren := {
  mixed := by kernel_rfl
  f6 := ⟨Tryz.f176.name, by decide, Tryz.func176.trans (congrArg some (by kernel_rfl))⟩
  f14 := ⟨Tryz.f187.name, by decide, Tryz.func187.trans (congrArg some (by kernel_rfl))⟩
  f15 := Tryz.func188.trans (congrArg some (by kernel_rfl))
  f20 := ⟨Tryz.f193.name, by decide, Tryz.func193.trans (congrArg some (by kernel_rfl))⟩
  f21 := ⟨Tryz.f194.name, by decide, Tryz.func194.trans (congrArg some (by kernel_rfl))⟩
  f22 := ⟨Tryz.f195.name, by decide, Tryz.func195.trans (congrArg some (by kernel_rfl))⟩
  f23 := ⟨Tryz.f196.name, by decide, Tryz.func196.trans (congrArg some (by kernel_rfl))⟩
  f24 := ⟨Tryz.f197.name, by decide, Tryz.func197.trans (congrArg some (by kernel_rfl))⟩
  f25 := ⟨Tryz.f198.name, by decide, Tryz.func198.trans (congrArg some (by kernel_rfl))⟩
  f26 := ⟨Tryz.f199.name, by decide, Tryz.func199.trans (congrArg some (by kernel_rfl))⟩
  f27 := ⟨Tryz.f200.name, by decide, Tryz.func200.trans (congrArg some (by kernel_rfl))⟩
  f28 := Tryz.func201.trans (congrArg some (by kernel_rfl))
  f29 := Tryz.func202.trans (congrArg some (by kernel_rfl))
  f46 := ⟨Tryz.f204.name, by decide, Tryz.func204.trans (congrArg some (by kernel_rfl))⟩
  f47 := Tryz.func205.trans (congrArg some (by kernel_rfl))
  f48 := Tryz.func206.trans (congrArg some (by kernel_rfl))
  f49 := ⟨Tryz.f207.name, by decide, Tryz.func207.trans (congrArg some (by kernel_rfl))⟩
  f50 := ⟨Tryz.f208.name, by decide, Tryz.func208.trans (congrArg some (by kernel_rfl))⟩
  f57 := ⟨Tryz.f218.name, by decide, Tryz.func218.trans (congrArg some (by kernel_rfl))⟩
  t0 := Tryz.underlying0
  a0 := Tryz.isAgg0
  z0 := Tryz.sizeOf0
  v0 := Tryz.zeroValue0
  t3 := Tryz.underlying3
  a3 := Tryz.isAgg3
  z3 := Tryz.sizeOf3
  v3 := Tryz.zeroValue3
  t4 := Tryz.underlying4
  a4 := Tryz.isAgg4
  z4 := Tryz.sizeOf4
  v4 := Tryz.zeroValue4
  t5 := Tryz.underlying5
  a5 := Tryz.isAgg5
  z5 := Tryz.sizeOf5
  v5 := Tryz.zeroValue5
  t9 := Tryz.underlying9
  a9 := Tryz.isAgg9
  z9 := Tryz.sizeOf9
  v9 := Tryz.zeroValue9
  t22 := Tryz.underlying22
  a22 := Tryz.isAgg22
  z22 := Tryz.sizeOf22
  v22 := Tryz.zeroValue22
  t25 := Tryz.underlying202
  a25 := Tryz.isAgg202
  z25 := Tryz.sizeOf202
  v25 := Tryz.zeroValue202
  t39 := Tryz.underlying191
  a39 := Tryz.isAgg191
  z39 := Tryz.sizeOf191
  v39 := Tryz.zeroValue191
  t45 := Tryz.underlying210
  a45 := Tryz.isAgg210
  z45 := Tryz.sizeOf210
  v45 := Tryz.zeroValue210
  t46 := Tryz.underlying211
  a46 := Tryz.isAgg211
  z46 := Tryz.sizeOf211
  v46 := Tryz.zeroValue211
  t50 := Tryz.underlying109
  a50 := Tryz.isAgg109
  z50 := Tryz.sizeOf109
  v50 := Tryz.zeroValue109
  t53 := Tryz.underlying48
  a53 := Tryz.isAgg48
  z53 := Tryz.sizeOf48
  v53 := Tryz.zeroValue48
  t55 := Tryz.underlying218
  a55 := Tryz.isAgg218
  z55 := Tryz.sizeOf218
  v55 := Tryz.zeroValue218
  t66 := Tryz.underlying220
  a66 := Tryz.isAgg220
  z66 := Tryz.sizeOf220
  v66 := Tryz.zeroValue220
  t70 := Tryz.underlying224
  a70 := Tryz.isAgg224
  z70 := Tryz.sizeOf224
  v70 := Tryz.zeroValue224
  t76 := Tryz.underlying230
  a76 := Tryz.isAgg230
  z76 := Tryz.sizeOf230
  v76 := Tryz.zeroValue230
  t77 := Tryz.underlying118
  a77 := Tryz.isAgg118
  z77 := Tryz.sizeOf118
  v77 := Tryz.zeroValue118 }
end Go.Proofs.YtjcklpooaaaglaaGreat
set_option maxRecDepth 4000
set_option linter.all false
namespace Go.Proofs.YtjcklpooaaaglaaGreat
open Go.RowKit
theorem Yz (x : Int) : ∀ u ∈ [Value.int .i64 x], u.oneCell' = true := by intro u hu; simp only [List.mem_cons, List.not_mem_nil, or_false] at hu; rw [hu]; rfl
def tInt : Ty Int := Ty.flat 1 (fun x => [.int .i64 x]) (by decide) (fun _ => rfl) Yz
instance : Flat tInt := ⟨fun h => h⟩
theorem fQ {α : Type} {p : α → Bool} {l : List α} {k : Nat} {x : α} (hx : l[k]? = some x) : (l.take (k + 1)).filter p = (l.take k).filter p ++ (if p x = true then [x] else []) := by
  rw [dK hx, List.filter_append]; simp only [List.filter_cons, List.filter_nil]
theorem sZ {α : Type} {a b : List α} {k : Nat} {x y : α} (h : a.take k = b.take k) (hx : a[k]? = some x) (hy : b[k]? = some y) (e : x = y) : a.take (k + 1) = b.take (k + 1) := by
  rw [dK hx, dK hy, h, e]
theorem Uy : aM Tryz.prog 164 := fun _ _ => by kernel_rfl
theorem iC : Size Tryz.prog 3 1 := fun _ => by kernel_rfl
theorem bf : kH Tryz.prog 3 := fun _ => by kernel_rfl
theorem KM {S0 : Nat → Prop} (w : World) (x : Int) :
    bY Tryz.prog 164 #[.int .i64 x] w fun v w' => v = .bool false ∧ Hp w S0 w' [] := by
 refine WP.enter Tryz.func164 Y Tryz.ntmps164 Y ?_
 have H0 := Hp.init w S0
 refine rg <| aR Y <| dn <| rg <| mv Y <| mv Y <| ev (Ev.neq Y Y) <| aR Y <| dn ?_
 refine WP.ret (aA.aD Y Y Y ?_)
 have hq1 : ((!decide (x = x)) : Bool) = false := by simp
 exact ⟨by rw [hq1] <;> rfl, H0⟩
theorem jJ {S0 : Nat → Prop} (w : World) (x : Int) (y : Int) :
    bY Tryz.prog 113 #[.int .i64 x, .int .i64 y] w fun v w' => v = .int .i64 (dP x y) ∧ Hp w S0 w' [] := by
 refine WP.enter Tryz.func113 Y Tryz.ntmps113 Y ?_
 have H0 := Hp.init w S0
 refine rg <| aR Y <| dn <| rg <| mv Y ?_
 refine C0 H0 Y Y Y Uy (KM (S0 := Any) _ x) fun w1 K1 => ?_
 refine aR Y <| dn <| rg <| mv Y ?_
 refine C0 K1 Y Y Y Uy (KM (S0 := Any) _ y) fun w2 K2 => ?_
 refine aR Y <| dn <| WP.seq <| rg <| mv Y <| dn ?_
 refine WP.aG Y (fun _h => absurd _h (by decide)) (fun _h => ?_)
 refine WP.skip (aA.norm ?_)
 refine WP.seq <| rg <| mv Y <| dn ?_
 refine WP.aG Y (fun _h => absurd _h (by decide)) (fun _h => ?_)
 refine WP.skip (aA.norm ?_)
 refine WP.seq <| rg <| mv Y <| mv Y <| ev (Ev.lss Y Y) <| dn ?_
 refine WP.aG Y (fun hc16 => ?_) (fun hc16 => ?_)
 ·
  replace hc16 := of_decide_eq_true hc16
  refine rg <| aR Y <| dn ?_
  refine WP.ret (aA.aP (aA.aD Y Y Y ?_))
  have hq1 : ((-1) : Int) = (dP x y) := by unfold dP; rw [if_pos hc16]
  exact ⟨by rw [← hq1] <;> rfl, K2⟩
 replace hc16 := of_decide_eq_false hc16
 refine WP.skip (aA.norm ?_)
 refine WP.seq <| rg <| mv Y <| mv Y <| ev (Ev.gtr Y Y) <| dn ?_
 refine WP.aG Y (fun hc19 => ?_) (fun hc19 => ?_)
 ·
  replace hc19 := of_decide_eq_true hc19
  refine rg <| aR Y <| dn ?_
  refine WP.ret (aA.aP (aA.aD Y Y Y ?_))
  have hq2 : (1 : Int) = (dP x y) := by unfold dP; rw [if_neg hc16, if_pos hc19]
  exact ⟨by rw [← hq2] <;> rfl, K2⟩
 replace hc19 := of_decide_eq_false hc19
 refine WP.skip (aA.norm ?_)
 refine rg <| aR Y <| dn ?_
 refine WP.ret (aA.aD Y Y Y ?_)
 have hq3 : (0 : Int) = (dP x y) := by unfold dP; rw [if_neg hc16, if_neg hc19]
 exact ⟨by rw [← hq3] <;> rfl, K2⟩
theorem YA {S0 : Nat → Prop} (w : World) {Gz : an3} {GA : Nat} {a : List Int} (uD : Sl tInt S0 w Gz GA a) {GD : an3} {GH : Nat} {b : List Int} (uE : Sl tInt S0 w GD GH b) :
    bY Tryz.prog 108 #[.slice Gz a.length GA, .slice GD b.length GH] w fun v w' => v = .bool (decide (a = b)) ∧ Hp w S0 w' [] := by
 refine WP.enter Tryz.func108 Y Tryz.ntmps108 Y ?_
 have H0 := Hp.init w S0
 have RI := uD.aN
 have RJ := uE.aN
 refine rg <| aR Y <| dn <| WP.seq <| rg <| mv Y <| ev (Ev.len Tryz.underlying51 Y) <| mv Y <| ev (Ev.len Tryz.underlying51 Y) <| ev (Ev.neq Y Y) <| dn ?_
 refine WP.aG Y (fun iR => ?_) (fun iR => ?_)
 ·
  replace iR := gJ iR
  refine rg <| aR Y <| dn ?_
  refine WP.ret (aA.aP (aA.aD Y Y Y ?_))
  have hq1 : (false : Bool) = (decide (a = b)) := by symm; simp only [decide_eq_false_iff_not]; intro h; subst h; exact iR rfl
  exact ⟨by rw [← hq1] <;> rfl, H0⟩
 replace iR := gD iR
 refine WP.skip (aA.norm ?_)
 refine WP.seq <| rg <| aR Y <| dn <| WP.block <| Lp H0 (fun l0 rk mJ lJ wJ => ∃ (k : Nat), lJ = (5, .int .i64 ((k : Nat) : Int)) :: l0 ∧ mJ = a.length - k ∧ k ≤ a.length ∧ (a.take k = b.take k) ∧ Hp w S0 wJ rk) ⟨0, Y, Y, Nat.zero_le _, by simp, H0⟩ rfl ?_
 rintro _ _ w1 ⟨k, rfl, rfl, hk, hse, K1⟩
 refine WP.seq <| rg <| mv Y <| mv Y <| ev (Ev.len Tryz.underlying51 Y) <| ev (Ev.lss Y Y) <| dn ?_
 refine WP.aG Y (fun fE => ?_) (fun fE => ?_)
 ·
  replace fE := of_decide_eq_true fE
  refine WP.skip (aA.norm ?_)
  refine WP.seq <| WP.block <| WP.draw (by kernel_rfl) (by kernel_rfl) <| WQ.ev (Ev.move Y) Y <| WQ.ev (Ev.move Y) Y ?_
  obtain ⟨x1, hx1⟩ := get_some (xs := a) (i := k) (by omega)
  refine WQ.ev (Ev.index (i := k) Tryz.underlying51 iC Y Y Y (aC hx1) ((K1.a uD).some_ hx1)) Y <| WQ.ev (Ev.aZ bf Y ((K1.a uD).aX (j := 0) hx1 Y)) Y ?_
  refine WQ.ev (Ev.move Y) Y <| WQ.ev (Ev.move Y) Y ?_
  obtain ⟨x2, hx2⟩ := get_some (xs := b) (i := k) (by omega)
  refine WQ.ev (Ev.index (i := k) Tryz.underlying51 iC Y Y Y (aC hx2) ((K1.a uE).some_ hx2)) Y <| WQ.ev (Ev.aZ bf Y ((K1.a uE).aX (j := 0) hx2 Y)) Y ?_
  refine WQ.ev (Ev.neq Y Y) Y ?_
  refine WQ.done fun w2 e2 => ?_
  have K2 := K1.grow e2
  refine WP.aG Y (fun hc25 => ?_) (fun hc25 => ?_)
  ·
   replace hc25 := gJ hc25
   refine rg <| aR Y <| dn ?_
   refine WP.ret (aA.bW (aA.aP (aA.aP (aA.bW (aA.aP (aA.aD Y Y Y ?_))))))
   have hq2 : (false : Bool) = (decide (a = b)) := by symm; simp only [decide_eq_false_iff_not]; intro h; subst h; rw [hx1] at hx2; cases hx2; exact hc25 rfl
   exact ⟨by rw [← hq2] <;> rfl, K2⟩
  replace hc25 := gD hc25
  refine WP.skip (aA.aS (aA.norm ?_))
  refine eP <| mv Y <| ev (Ev.add Y Y (eX.mk (by omega) (by omega))) <| aR Y <| eT ?_
  exact aA.ag ⟨(k + 1), Y, Y, by omega, by exact sZ hse hx1 hx2 (by simpa using hc25), K2⟩ rfl (by omega)
 replace fE := of_decide_eq_false fE
 refine WP.exit (aA.aF (aA.aF (aA.bS (aA.norm ?_))))
 refine rg <| aR Y <| dn ?_
 refine WP.ret (aA.aD Y Y Y ?_)
 have hq3 : (true : Bool) = (decide (a = b)) := by symm; simp only [decide_eq_true_eq]; rw [List.take_of_length_le (by omega), List.take_of_length_le (by omega)] at hse; exact hse
 exact ⟨by rw [← hq3] <;> rfl, K1⟩
end Go.Proofs.YtjcklpooaaaglaaGreat
set_option maxRecDepth 4000
set_option linter.all false
namespace Go.Proofs.YtjcklpooaaaglaaGreat
open Go.RowKit
structure AChunk where
  ID : Int
  ay : Int
  Sum : Int
  av : List Int
  deriving DecidableEq
def AChunk.enc (x : AChunk) (B0 : an3) (d0 : Nat) : List Value := [.int .i64 x.ID, .int .i64 x.ay, .int .u32 x.Sum, .slice B0 x.av.length d0]
theorem AChunk.iB (x : AChunk) (B0 : an3) (d0 : Nat) : ∀ u ∈ x.enc B0 d0, u.oneCell' = true := by
  intro u hu
  simp only [AChunk.enc, List.mem_cons, List.not_mem_nil, or_false] at hu
  rcases hu with rfl | rfl | rfl | rfl <;> rfl
def AChunk.wf (x : AChunk) : Prop := InI64 x.ID ∧ InI64 x.ay ∧ TW x.Sum ∧ (∀ y ∈ x.av, InI64 y)
def tChunk : Ty AChunk where
  k := 4
  pos := by decide
  R := fun S w x cs => ∃ (B0 : an3) (d0 : Nat), cs = x.enc B0 d0 ∧ Sl tInt S w B0 d0 x.av
  len := by rintro S w x cs ⟨B0, d0, rfl, h0⟩; rfl
  one := by rintro S w x cs ⟨B0, d0, rfl, h0⟩; exact AChunk.iB x B0 d0
  keep := by rintro S w w' x cs m ⟨B0, d0, rfl, h0⟩; exact ⟨B0, d0, rfl, h0.keep m⟩
  sub := by rintro S S' w x cs n ⟨B0, d0, rfl, h0⟩; exact ⟨B0, d0, rfl, h0.sub n⟩
  bd := by rintro S w x cs ⟨B0, d0, rfl, h0⟩; exact ⟨B0, d0, rfl, h0.bd⟩
theorem AChunk.op {S : Nat → Prop} {w : World} {a : Addr} {i : Nat} {x : AChunk} (h : ∃ cs, tChunk.R S w x cs ∧ ∀ j u, cs[j]? = some u → w.cell? (a.add (i * 4 + j)) = some u) :
    ∃ (B0 : an3) (d0 : Nat), (∀ j u, (x.enc B0 d0)[j]? = some u → w.cell? (a.add (i * 4 + j)) = some u) ∧ Sl tInt S w B0 d0 x.av := by
  obtain ⟨cs, ⟨B0, d0, rfl, h0⟩, h9⟩ := h
  exact ⟨B0, d0, h9, h0⟩
structure fZ where
  c : AChunk
  B : Option Addr
  d : Nat
def fZ.enc (k : fZ) : List Value := [.int .i64 k.c.ID, .int .i64 k.c.ay, .int .u32 k.c.Sum, .slice k.B k.c.av.length k.d]
theorem fZ.iB (k : fZ) : ∀ u ∈ k.enc, u.oneCell' = true := by
  intro u hu
  simp only [fZ.enc, List.mem_cons, List.not_mem_nil, or_false] at hu
  rcases hu with rfl | rfl | rfl | rfl <;> rfl
def tK : Ty fZ := Ty.flat 4 fZ.enc (by decide) (fun _ => rfl) fZ.iB
instance : Flat tK := ⟨fun h => h⟩
def tq (k : fZ) : Option Addr × Nat × List Int := (k.B, k.d, k.c.av)
section
variable {b w : World} {S : Nat → Prop} {rs rest sW : List jP} {A : an3} {c e : Nat}
theorem Hp.toK {l : List AChunk} (H : Hp b S w rs) (s : nS rs (aQ tChunk e A c l) rest) : ∃ ks : List fZ, ks.map fZ.c = l ∧ Hp b S w (aQ tK e A c ks :: Dz tInt (ks.map tq) :: rest) := by
  have hex : ∀ i, i < l.length → ∃ k : fZ, ∃ x, l[i]? = some x ∧ k.c = x ∧ Sl tInt (Rd b S rs w) w k.B k.d k.c.av ∧ ∀ cs, (tChunk.R (Rd b S rs w) w x cs ∧ ∀ j u, cs[j]? = some u → w.cell? ((vV A).add (i * 4 + j)) = some u) → cs = k.enc := by
    intro i hi
    obtain ⟨x, hx⟩ := get_some (xs := l) hi
    obtain ⟨cs, ⟨B, d, hcs, hs⟩, hc⟩ := H.oi s hx
    refine ⟨⟨x, B, d⟩, x, hx, Y, hs, ?_⟩
    rintro cs2 ⟨⟨B2, d2, hcs2, _⟩, hc2⟩
    have h3 := hc 3 (.slice B x.av.length d) (by rw [hcs]; rfl)
    have h4 := hc2 3 (.slice B2 x.av.length d2) (by rw [hcs2]; rfl)
    have h5 : w.cell? ((vV A).add (i * 4 + 3)) = some (.slice B x.av.length d) := h3
    rw [h4] at h5
    injection h5 with h5
    injection h5 with hB _ hd
    subst hB hd
    rw [hcs2]; rfl
  obtain ⟨ks, hl, hk⟩ := wF (q := fun i (k : fZ) => ∃ x, l[i]? = some x ∧ k.c = x ∧ Sl tInt (Rd b S rs w) w k.B k.d k.c.av ∧ ∀ cs, (tChunk.R (Rd b S rs w) w x cs ∧ ∀ j u, cs[j]? = some u → w.cell? ((vV A).add (i * 4 + j)) = some u) → cs = k.enc) l.length hex
  refine ⟨ks, ?_, ?_⟩
  · apply List.ext_getElem?
    intro i
    rw [List.getElem?_map]
    cases hi : ks[i]? with
    | none => have := List.getElem?_eq_none_iff.1 hi; rw [List.getElem?_eq_none (by omega)]; rfl
    | some k => obtain ⟨x, h1, h2, _⟩ := hk i k hi; rw [h1, ← h2]; rfl
  · have hin : Hp b S w (Dz tInt (ks.map tq) :: rs) := H.new (r := Dz tInt (ks.map tq)) (Ext.refl w) (fun _ h => h.elim) (by
      intro r hr
      obtain ⟨k, hkm, rfl⟩ := List.mem_map.1 hr
      obtain ⟨i, hi⟩ := List.getElem?_of_mem hkm
      obtain ⟨x, _, _, h3, _⟩ := hk i k hi
      exact h3)
    have h1 : Hp b S w (aQ tChunk e A c l :: Dz tInt (ks.map tq) :: rest) := (hin.sel (.t s))
    obtain ⟨css, c1, c2, c3⟩ := H.ow s
    refine (h1.put (r' := aQ tK e A c ks) ⟨Y, Y, Y, Nat.le_refl _, fun _ _ _ => Y, Nat.le_refl _⟩ (fun g hg => .inl hg) ?_)
    refine Own.low (lo := b.heap.size) (S := Rd b S rs w) ⟨css, by rw [c1, hl], fun i y hy => ?_, by rw [← hl] at c3; exact c3⟩ (Nat.zero_le _) (fun g hg => ?_)
    · obtain ⟨x, hx, _, _, h4⟩ := hk i y hy
      obtain ⟨cs, h5, h6⟩ := c2 i x hx
      refine ⟨cs, h5, ?_⟩
      refine h4 cs ⟨h6, fun j u hu => ?_⟩
      have hkk := CW c1 c2
      rcases c3.2 with ⟨hv, hn⟩ | ⟨g, cap, cur, hv, hg, hh, hnc, hcm, hcs, ht⟩
      · have := aC hx; omega
      · injection hv with hA hn' hc'
        subst hA hc'
        exact c3.cells (g := g) Y _ _ (za css hkk i cs h5 j u hu)
    · rcases hg with h | ⟨g1, g2, g3⟩
      · exact .inl h
      · refine .inr ⟨g1, g2, fun r hr => ?_⟩
        rcases List.mem_cons.1 hr with rfl | hr
        · exact g3 _ (s.perm.mem_iff.2 (by simp))
        · rcases List.mem_cons.1 hr with rfl | hr
          · exact fun h => h
          · exact g3 r (s.perm.mem_iff.2 (by simp [hr]))
theorem Hp.ofK {ks : List fZ} (H : Hp b S w rs) (s : nS rs (aQ tK e A c ks) rest) (s' : nS rest (Dz tInt (ks.map tq)) sW) : Hp b S w (aQ tChunk e A c (ks.map fZ.c) :: sW) := by
  have hmem : Dz tInt (ks.map tq) ∈ rs := s.perm.mem_iff.2 (by simp [s'.perm.mem_iff])
  have hin : ∀ r ∈ ks.map tq, Sl tInt (Rd b S rs w) w r.1 r.2.1 r.2.2 := H.ok (Dz tInt (ks.map tq)) hmem
  refine (H.aa3 (ρ := tChunk) (ys := ks.map fZ.c) s Y (by simp) ?_).rm (.t s')
  intro i x y cs hx hy hR
  rw [List.getElem?_map, hx] at hy
  cases hy
  have hR' : cs = x.enc := hR
  refine ⟨x.B, x.d, hR', hin (tq x) (List.mem_map.2 ⟨x, bV hx, Y⟩)⟩
theorem Hp.rdK {ks : List fZ} (H : Hp b S w rs) (s : nS rs (aQ tK e A c ks) rest) (s' : nS rest (pJ tInt 3 (ks.map tq)) sW) : Sl tChunk Any w A c (ks.map fZ.c) := by
  have h1 := ((H.sel s).perm (s'.perm.cons _) : Hp b S w (aQ tK e A c ks :: pJ tInt 3 (ks.map tq) :: sW))
  exact ((h1.Uo s1).ofK s1 s0).o s0
end
theorem aa7 : aM Tryz.prog 110 := fun _ _ => by kernel_rfl
theorem Uz  : ∀ w, (Instr.buildSlice 51 0 (List.toArray [])).run Tryz.prog w = .ok (.slice (some ⟨w.heap.size, 0, none⟩) 0 0) (w.alloc (.cells (List.toArray []) 3)) := fun _ => by kernel_rfl
theorem uF : je Tryz.prog 3 1 8 := by
  obtain ⟨i, h1, h2, h3, h4⟩ := info_parts (show (Tryz.prog.info? 3).map (fun i => (i.zero, i.size, i.bytes)) = some (some (.int .i64 0), 1, 8) by kernel_rfl)
  exact ⟨i, _, h1, h2, h3, h4, Y⟩
theorem gu : Size Tryz.prog 53 4 := fun _ => by kernel_rfl
theorem gQ : NT Tryz.prog 53 4 := ⟨fun _ => by kernel_rfl, gu⟩
theorem iI : ∀ w, (zeroValue 53).run Tryz.prog w = .ok (.agg #[.int .i64 0, .int .i64 0, .int .u32 0, .slice none 0 0]) w := fun _ => by kernel_rfl
theorem kZ : dL Tryz.prog 53 1 1 := fun _ _ => by kernel_rfl
theorem fT : dL Tryz.prog 53 3 3 := fun _ _ => by kernel_rfl
theorem gK : kH Tryz.prog 51 := fun _ => by kernel_rfl
theorem Zy : aM Tryz.prog 74 := fun _ _ => by kernel_rfl
theorem gI : dL Tryz.prog 53 0 0 := fun _ _ => by kernel_rfl
theorem jk (a0 : Int) : ∀ w, (Instr.buildSlice 51 1 (List.toArray [(0, .int .i64 a0)])).run Tryz.prog w = .ok (.slice (some ⟨w.heap.size, 0, none⟩) 1 1) (w.alloc (.cells (List.toArray [.int .i64 a0]) 3)) := fun _ => by kernel_rfl
theorem UA  : ∀ w, (Instr.buildSlice 23 0 (List.toArray [])).run Tryz.prog w = .ok (.slice (some ⟨w.heap.size, 0, none⟩) 0 0) (w.alloc (.cells (List.toArray []) 53)) := fun _ => by kernel_rfl
theorem Zz : je Tryz.prog 53 4 48 := by
  obtain ⟨i, h1, h2, h3, h4⟩ := info_parts (show (Tryz.prog.info? 53).map (fun i => (i.zero, i.size, i.bytes)) = some (some (.agg #[.int .i64 0, .int .i64 0, .int .u32 0, .slice none 0 0]), 4, 48) by kernel_rfl)
  exact ⟨i, _, h1, h2, h3, h4, Y⟩
theorem UC : aM Tryz.prog 32 := fun _ _ => by kernel_rfl
theorem ZA : aM Tryz.prog 58 := fun _ _ => by kernel_rfl
theorem KN : aM Tryz.prog 61 := fun _ _ => by kernel_rfl
theorem zm : Size Tryz.prog 51 1 := fun _ => by kernel_rfl
theorem tu : (Tryz.prog.underlying 3).isSome = true ∧ Tryz.prog.underlying 191 = some (.int (Tryz.prog.intKind 191)) ∧ Tryz.prog.intKind 191 = .u64 := ⟨by kernel_rfl, by kernel_rfl, by kernel_rfl⟩
theorem tC : (Tryz.prog.underlying 191).isSome = true ∧ Tryz.prog.underlying 3 = some (.int (Tryz.prog.intKind 3)) ∧ Tryz.prog.intKind 3 = .i64 := ⟨by kernel_rfl, by kernel_rfl, by kernel_rfl⟩
theorem qD : aM Tryz.prog 113 := fun _ _ => by kernel_rfl
theorem aa8 : aM Tryz.prog 112 := fun _ _ => by kernel_rfl
theorem aa9 : aM Tryz.prog 111 := fun _ _ => by kernel_rfl
theorem ZB : aM Tryz.prog 67 := fun _ _ => by kernel_rfl
theorem ZC : aM Tryz.prog 68 := fun _ _ => by kernel_rfl
theorem N9  : Tryz.prog.built 53 [] = some #[.int .i64 0, .int .i64 0, .int .u32 0, .slice none 0 0] := by kernel_rfl
theorem yx : aM Tryz.prog 63 := fun _ _ => by kernel_rfl
theorem KO {S0 : Nat → Prop} (w : World) {qE : an3} {qF : Nat} {s : List Int} (j3 : Sl tInt S0 w qE qF s) (val : Int) :
    bY Tryz.prog 110 #[.slice qE s.length qF, .int .i64 val] w fun v w' => v = .int .i64 (idxOf (fun (x : Int) => decide (x = val)) s) ∧ Hp w S0 w' [] := by
 refine WP.enter Tryz.func110 Y Tryz.ntmps110 Y ?_
 have H0 := Hp.init w S0
 have yH := j3.aN
 refine rg <| aR Y <| dn <| WP.seq <| rg <| mv Y <| ev (Ev.len Tryz.underlying51 Y) <| mv Y <| dn <| WP.block <| Lp H0 (fun l0 rk mJ lJ wJ => ∃ (k : Nat), lJ = (8, .int .i64 ((k : Nat) : Int)) :: l0 ∧ mJ = s.length - k ∧ k ≤ s.length ∧ (∀ y ∈ s.take k, (fun (x : Int) => decide (x = val)) y = false) ∧ Hp w S0 wJ rk) ⟨0, Y, Y, Nat.zero_le _, by simp, H0⟩ rfl ?_
 rintro _ _ w1 ⟨k, rfl, rfl, hk, hno, K1⟩
 refine rg <| ev (Ev.lss Y Y) <| dn ?_
 refine WP.cond Y (fun jE => ?_) (fun jE => ?_)
 ·
  replace jE := of_decide_eq_true jE
  refine WP.skip (aA.norm ?_)
  refine WP.seq <| WP.block <| rg <| mv Y <| aR Y <| dn <| rg <| mv Y <| mv Y <| mv Y ?_
  obtain ⟨x1, hx1⟩ := get_some (xs := s) (i := k) (by omega)
  refine ev (Ev.index (i := k) Tryz.underlying51 iC Y Y Y (aC hx1) ((K1.a j3).some_ hx1)) <| ev (Ev.aZ bf Y ((K1.a j3).aX (j := 0) hx1 Y)) ?_
  refine ev (Ev.eql Y Y) <| dn ?_
  refine WP.aG Y (fun hc16 => ?_) (fun hc16 => ?_)
  ·
   replace hc16 := of_decide_eq_true hc16
   refine rg <| mv Y <| aR Y <| dn ?_
   refine WP.ret (aA.bW (aA.aP (aA.aP (aA.bW (aA.aP (aA.aD Y Y Y ?_))))))
   have hq1 : (((k : Nat) : Int) : Int) = (idxOf (fun (x : Int) => decide (x = val)) s) := by exact (jU hno hx1 (by simp; omega)).symm
   exact ⟨by rw [hq1] <;> rfl, K1⟩
  replace hc16 := of_decide_eq_false hc16
  refine WP.skip (aA.aS (aA.norm ?_))
  refine eP <| ev (Ev.add Y Y (eX.mk (by omega) (by omega))) <| mv Y <| eT ?_
  exact aA.ag ⟨(k + 1), Y, Y, by omega, by exact gP (q := fun y => decide (y = val) = false) hno hx1 (by simp; omega), K1⟩ rfl (by omega)
 replace jE := of_decide_eq_false jE
 refine WP.exit (aA.aF (aA.aF (aA.bS (aA.norm ?_))))
 refine rg <| aR Y <| dn ?_
 refine WP.ret (aA.aD Y Y Y ?_)
 have hq2 : ((-1) : Int) = (idxOf (fun (x : Int) => decide (x = val)) s) := by exact (kI (jf hno (by omega))).symm
 exact ⟨by rw [← hq2] <;> rfl, K1⟩
theorem IQ (s : List Int) (v : Int) : decide (0 ≤ idxOf (fun (x : Int) => decide (x = v)) s) = s.contains v := by
  rw [Bool.eq_iff_iff]
  simp only [decide_eq_true_eq, List.contains_iff_mem]
  rcases oK (fun (x : Int) => decide (x = v)) s with ⟨h1, h2⟩ | ⟨k, x, h1, h2, h3, h4⟩
  · rw [h1]; simp; intro h; have := h2 v h; simp at this
  · rw [h1]; simp at h3; subst h3; simp; exact bV h2
theorem iq {S0 : Nat → Prop} (w : World) {qE : an3} {qF : Nat} {s : List Int} (j3 : Sl tInt S0 w qE qF s) (val : Int) :
    bY Tryz.prog 63 #[.slice qE s.length qF, .int .i64 val] w fun v w' => v = .bool (s.contains val) ∧ Hp w S0 w' [] := by
 refine WP.enter Tryz.func63 Y Tryz.ntmps63 Y ?_
 have H0 := Hp.init w S0
 have yH := j3.aN
 refine rg <| aR Y <| dn <| rg <| mv Y <| mv Y ?_
 refine C0 H0 Y Y Y aa7 (KO _ (H0.a j3).any val) fun w1 K1 => ?_
 refine ev (Ev.geq Y Y) <| aR Y <| dn ?_
 refine WP.ret (aA.aD Y Y Y ?_)
 have hq1 : (decide (0 ≤ idxOf (fun (x : Int) => decide (x = val)) s) : Bool) = (s.contains val) := by exact IQ s val
 exact ⟨by rw [hq1] <;> rfl, K1⟩
theorem o7 {S0 : Nat → Prop} (w : World) {qE : an3} {qF : Nat} {s : List Int} (j3 : Sl tInt S0 w qE qF s) (hn : s.length ≤ 1000000) :
    bY Tryz.prog 61 #[.slice qE s.length qF] w fun v w' => ∃ (A0 : an3) (c0 : Nat), v = .slice A0 s.length c0 ∧ Hp w S0 w' [aQ tInt 3 A0 c0 s] := by
 refine WP.enter Tryz.func61 Y Tryz.ntmps61 Y ?_
 have H0 := Hp.init w S0
 have yH := j3.aN
 refine rg <| aR Y <| dn <| WP.seq <| rg <| mv Y <| ev (Ev.Gn Tryz.underlying51 Y Y) <| dn ?_
 refine WP.aG Y (fun hc4 => ?_) (fun hc4 => ?_)
 ·
  refine rg <| aR Y <| dn ?_
  refine WP.ret (aA.aP (aA.aD Y Y Y ?_))
  have H1 := H0.nil tInt 3
  have hq1 : (([] : List Int) : List Int) = s := by have h1 := j3.nil (by simpa using hc4); have h2 := j3.cap; exact (List.eq_nil_of_length_eq_zero (by omega)).symm
  have H2 := (hq1 ▸ H1 : Hp w S0 w (aQ tInt 3 none 0 s :: []))
  exact ⟨none, 0, by rw [← hq1] <;> rfl, H2⟩
 refine WP.skip (aA.norm ?_)
 refine rg ?_
 refine bs0 (τ := tInt) (vs := []) Y (by intro _; apply Uz) rfl H0 fun g1 w1 K1 => ?_
 refine mv Y ?_
 refine ap (ys := s) K1 s0 Y Y (K1.a j3).any Tryz.underlying51 uF (by simp) (by first | omega | (simp; omega) | (simp; done)) rfl fun jg jh w2 K2 => ?_
 refine aR Y <| dn ?_
 refine WP.ret (aA.aD Y Y Y ?_)
 have hq2 : ((([] : List Int) ++ s) : List Int) = s := by simp
 rw [hq2] at K2
 exact ⟨jg, jh, by rw [hq2] <;> rfl, K2⟩
def fB (most : Int) : Int → List Int → Bool
  | _, [] => true
  | lZ, n :: l => !(decide (n < lZ) || decide (most < n)) && fB most (n + 1) l
def pX (c : AChunk) : Bool := !(decide (c.ay < 1) || decide (1073741824 < c.ay) || !fB 16 1 c.av)
def jA (l : List AChunk) : Bool := l.all pX && decide (l.length ≤ 32) && fB 1048576 1 (l.map AChunk.ID)
def iw (l : List AChunk) : List AChunk := if jA l then l else []
theorem GI (l : List AChunk) : (iw l).length ≤ l.length := by unfold iw; split <;> simp
theorem BL {most z : Int} {l : List Int} {k : Nat} {x : Int} (hx : l[k]? = some x) : fB most z (l.drop k) = (!(decide (x < z) || decide (most < x)) && fB most (x + 1) (l.drop (k + 1))) := by
  rw [List.drop_eq_getElem_cons (aC hx), (List.getElem?_eq_some_iff.1 hx).2]; rfl
theorem qm {most : Int} : ∀ (l : List Int) (z : Int), fB most z l = true → ∀ x ∈ l, z ≤ x ∧ x ≤ most
  | [], _, _, x, hx => by simp at hx
  | y :: l, z, h, x, hx => by
    simp only [fB, Bool.and_eq_true, Bool.not_eq_true', Bool.or_eq_false_iff, decide_eq_false_iff_not] at h
    rcases List.mem_cons.1 hx with rfl | hx
    · omega
    · have := qm l _ h.2 x hx; omega
theorem xE {most : Int} : ∀ (l : List Int) (z : Int), fB most z l = true → l.Pairwise (fun x y => x < y)
  | [], _, _ => List.Pairwise.nil
  | y :: l, z, h => by
    simp only [fB, Bool.and_eq_true, Bool.not_eq_true', Bool.or_eq_false_iff, decide_eq_false_iff_not] at h
    exact List.pairwise_cons.2 ⟨fun x hx => by have := qm l _ h.2 x hx; omega, xE l _ h.2⟩
theorem j4 {l : List AChunk} : jA l = true ↔ (∀ c ∈ l, pX c = true) ∧ l.length ≤ 32 ∧ fB 1048576 1 (l.map AChunk.ID) = true := by
  unfold jA; simp only [Bool.and_eq_true, List.all_eq_true, decide_eq_true_eq, and_assoc]
theorem wG (l : List AChunk) : Up AChunk.ID (iw l) := by
  unfold iw; split
  · rename_i h
    have := xE _ _ (j4.1 h).2.2
    rw [List.pairwise_map] at this
    exact this
  · exact List.Pairwise.nil
theorem xG (l : List AChunk) : jA (iw l) = true := by
  unfold iw; split
  · assumption
  · rfl
theorem wH {l : List AChunk} (h : jA l = true) : iw l = l := by unfold iw; rw [if_pos h]
theorem RL {l : List AChunk} (h : jA l = false) : iw l = [] := by unfold iw; rw [h]; rfl
theorem KP {S0 : Nat → Prop} (w : World) {d9 : an3} {eu : Nat} {l : List Int} (dN : Sl tInt S0 w d9 eu l) (lZ : Int) (most : Int) (hm : most ≤ 9223372036854775806) (hl0 : 0 ≤ lZ) :
    bY Tryz.prog 74 #[.slice d9 l.length eu, .int .i64 lZ, .int .i64 most] w fun v w' => v = .bool (fB most lZ l) ∧ Hp w S0 w' [] := by
 refine WP.enter Tryz.func74 Y Tryz.ntmps74 Y ?_
 have H0 := Hp.init w S0
 have iJ := dN.aN
 refine rg <| aR Y <| dn <| WP.seq <| rg <| mv Y <| ev (Ev.len Tryz.underlying51 Y) <| mv Y <| dn <| WP.block <| Lp H0 (fun l0 rk mJ lJ wJ => ∃ (k : Nat) (z : Int), lJ = (1, .int .i64 z) :: (11, .int .i64 ((k : Nat) : Int)) :: l0 ∧ mJ = l.length - k ∧ k ≤ l.length ∧ (fB most lZ l = fB most z (l.drop k)) ∧ (0 ≤ z) ∧ Hp w S0 wJ rk) ⟨0, lZ, Y, Y, Nat.zero_le _, by simp, by exact hl0, H0⟩ rfl ?_
 rintro _ _ w1 ⟨k, z, rfl, rfl, hk, hz, hz0, K1⟩
 refine rg <| ev (Ev.lss Y Y) <| dn ?_
 refine WP.cond Y (fun iL => ?_) (fun iL => ?_)
 ·
  replace iL := of_decide_eq_true iL
  refine WP.skip (aA.norm ?_)
  refine WP.seq <| WP.block <| rg ?_
  obtain ⟨x1, hx1⟩ := get_some (xs := l) (i := k) (by omega)
  refine ev (Ev.index (i := k) Tryz.underlying51 iC Y Y Y (aC hx1) ((K1.a dN).some_ hx1)) <| ev (Ev.aZ bf Y ((K1.a dN).aX (j := 0) hx1 Y)) ?_
  refine aR Y <| dn <| WP.seq <| rg <| mv Y <| mv Y <| ev (Ev.lss Y Y) <| mv Y ?_
  refine WL.dR 4 22 ((decide (x1 < z)) || (decide (most < x1))) ?_ ?_
  ·
   cases UD : decide (x1 < z) with
   | true =>
    refine WL.pass Y Y Y <| WL.pass Y Y Y <| WL.pass Y Y Y <| ev (Ev.bq Y Y) ?_
    exact WL.bM Y
   | false =>
    have ZE := of_decide_eq_false UD
    refine WL.bF Y (Ev.move Y) Y <| WL.bF Y (Ev.move Y) Y <| WL.bF Y (Ev.gtr Y Y) Y <| ev (Ev.bn Y Y) ?_
    exact WL.bM Y
  refine dn ?_
  refine WP.aG Y (fun hc22 => ?_) (fun hc22 => ?_)
  ·
   try simp only [Bool.or_eq_true, Bool.or_eq_false_iff, decide_eq_true_eq, decide_eq_false_iff_not] at hc22
   refine rg <| aR Y <| dn ?_
   refine WP.ret (aA.aP (aA.bW (aA.aP (aA.aP (aA.bW (aA.aP (aA.aD Y Y Y ?_)))))))
   have hq1 : (false : Bool) = (fB most lZ l) := by rw [hz, BL hx1]; simp; intro h1 h2; omega
   exact ⟨by rw [← hq1] <;> rfl, K1⟩
  try simp only [Bool.or_eq_true, Bool.or_eq_false_iff, decide_eq_true_eq, decide_eq_false_iff_not] at hc22
  refine WP.skip (aA.norm ?_)
  refine eP <| mv Y <| ev (Ev.add Y Y (eX.mk (by omega) (by omega))) <| aR Y <| eT <| aA.aS (aA.norm ?_)
  refine eP <| ev (Ev.add Y Y (eX.mk (by omega) (by omega))) <| mv Y <| eT ?_
  exact aA.ag ⟨(k + 1), x1 + 1, Y, Y, by omega, by rw [hz, BL hx1]; simp [hc22], by omega, K1⟩ rfl (by omega)
 replace iL := of_decide_eq_false iL
 refine WP.exit (aA.aF (aA.aF (aA.bS (aA.norm ?_))))
 refine rg <| aR Y <| dn ?_
 refine WP.ret (aA.aD Y Y Y ?_)
 have hq2 : (true : Bool) = (fB most lZ l) := by rw [hz, List.drop_of_length_le (by omega)]; rfl
 exact ⟨by rw [← hq2] <;> rfl, K1⟩
theorem IU {S0 : Nat → Prop} (w : World) {d9 : an3} {eu : Nat} {l : List AChunk} (dN : Sl tChunk S0 w d9 eu l) (hn : l.length ≤ 100000) :
    bY Tryz.prog 32 #[.slice d9 l.length eu] w fun v w' => v = .bool (jA l) ∧ Hp w S0 w' [] := by
 refine WP.enter Tryz.func32 Y Tryz.ntmps32 Y ?_
 have H0 := Hp.init w S0
 have iJ := dN.aN
 refine rg <| aR Y <| dn <| rg <| aR Y <| dn <| WP.seq <| rg <| mv Y <| ev (Ev.len Tryz.underlying23 Y) <| mv Y <| dn <| WP.block ?_
 have H1 := H0.nil tInt 3
 have hq1 : (([] : List Int) : List Int) = ((l.take 0).map AChunk.ID) := by rfl
 refine WP.re (t := 3) Y (congrArg (fun z => Value.slice none (List.length z) 0) hq1) ?_
 have H2 := H1.nil tInt 3
 have H3 := (hq1 ▸ H2 : Hp w S0 w (aQ tInt 3 none 0 ((l.take 0).map AChunk.ID) :: [aQ tInt 3 none 0 []]))
 refine Lp ((H3.rm s1).rm s0) (fun l0 rk mJ lJ wJ => ∃ (k : Nat) (A3 : an3) (c3 : Nat), lJ = (3, .slice A3 (((l.take k).map AChunk.ID).length) c3) :: (8, .int .i64 ((k : Nat) : Int)) :: l0 ∧ mJ = l.length - k ∧ k ≤ l.length ∧ (∀ y ∈ l.take k, pX y = true) ∧ Hp w S0 wJ (aQ tInt 3 A3 c3 ((l.take k).map AChunk.ID) :: rk)) ⟨0, none, 0, Y, Y, Nat.zero_le _, by simp, (H3.rm s1)⟩ rfl ?_
 rintro _ _ w1 ⟨k, A3, c3, rfl, rfl, hk, hall, K1⟩
 refine rg <| ev (Ev.lss Y Y) <| dn ?_
 refine WP.cond Y (fun jE => ?_) (fun jE => ?_)
 ·
  replace jE := of_decide_eq_true jE
  refine WP.skip (aA.norm ?_)
  refine WP.seq <| WP.block <| rg ?_
  obtain ⟨x1, hx1⟩ := get_some (xs := l) (i := k) (by omega)
  refine ev (Ev.index (i := k) Tryz.underlying23 gu Y Y Y (aC hx1) ((K1.a dN).some_ hx1)) ?_
  obtain ⟨B1, d1, kL, hi1⟩ := AChunk.op (dN.row hx1)
  refine ev (Ev.loadRow (cs := [.int .i64 x1.ID, .int .i64 x1.ay, .int .u32 x1.Sum, .slice B1 x1.av.length d1]) gQ Y Y (oJ (fun j u hu => K1.ext.cell (kL j u hu)))) ?_
  refine al iI Y K1 fun g1 w2 K2 => ?_
  refine iW Y Y Y gu K2 s0 Y Y fun w3 K3 => ?_
  refine dn <| WP.seq <| rg <| ev (Ev.field (q := ⟨g1, 1, none⟩) kZ Y Y) <| ev (Ev.aj bf Y (K3.x s0) Y) <| ev (Ev.lss Y Y) <| mv Y ?_
  refine WL.dR 4 19 ((decide (x1.ay < 1)) || (decide (1073741824 < x1.ay))) ?_ ?_
  ·
   cases IV : decide (x1.ay < 1) with
   | true =>
    refine WL.pass Y Y Y <| WL.pass Y Y Y <| WL.pass Y Y Y <| ev (Ev.bq Y Y) ?_
    exact WL.bM Y
   | false =>
    have UE := of_decide_eq_false IV
    refine WL.bF Y (Ev.field (q := ⟨g1, 1, none⟩) kZ Y Y) Y <| WL.bF Y (Ev.aj bf Y (K3.x s0) Y) Y <| WL.bF Y (Ev.gtr Y Y) Y ?_
    refine ev (Ev.bn Y Y) ?_
    exact WL.bM Y
  refine mv Y ?_
  refine WL.oI 5 25 (((decide (x1.ay < 1)) || (decide (1073741824 < x1.ay))) || (!(fB 16 1 x1.av))) ?_ ?_
  ·
   cases UF : ((decide (x1.ay < 1)) || (decide (1073741824 < x1.ay))) with
   | true =>
    refine WL.pass Y Y Y <| WL.pass Y Y Y <| WL.pass Y Y Y <| WL.pass Y Y Y <| ev (Ev.bq Y Y) ?_
    exact WL.iY Y (Ext.refl _)
   | false =>
    have UG := UF
    try simp only [Bool.or_eq_true, Bool.or_eq_false_iff, decide_eq_true_eq, decide_eq_false_iff_not] at UG
    refine WL.bF Y (Ev.field (q := ⟨g1, 3, none⟩) fT Y Y) Y <| WL.bF Y (Ev.aj gK Y (K3.x s0) Y) Y <| WL.jd Y Y Y Y Zy (KP _ (K3.a hi1).any 1 16 (by omega) (by omega)) Y ?_
    rintro _ w4 ⟨rfl, h4⟩
    have K4 := K3.c0 h4
    refine WL.bF Y (Ev.not Y) Y <| ev (Ev.bn Y Y) ?_
    exact WL.iY Y h4.ext
  intro w5 e5
  have K5 := K3.grow e5
  refine dn ?_
  refine WP.aG Y (fun hc25 => ?_) (fun hc25 => ?_)
  ·
   refine rg <| aR Y <| dn ?_
   refine WP.ret (aA.aP (aA.bW (aA.aP (aA.aP (aA.bW (aA.aP (aA.aD Y Y Y ?_)))))))
   have hq2 : (false : Bool) = (jA l) := by symm; unfold jA; rw [show l.all pX = false from by rw [List.all_eq_false]; exact ⟨x1, bV hx1, by unfold pX; rw [hc25]; simp⟩]; rfl
   exact ⟨by rw [← hq2] <;> rfl, K5.z⟩
  refine WP.skip (aA.norm ?_)
  refine eP <| mv Y <| ev (Ev.field (q := ⟨g1, 0, none⟩) gI Y Y) <| ev (Ev.aj bf Y (K5.x s0) Y) ?_
  refine ni (τ := tInt) (x := x1.ID) Y (by intro _; apply jk) rfl K5 (fun _ _ => rfl) fun g2 w6 K6 => ?_
  refine ap (ys := ([x1.ID] : List Int)) K6 s2 Y Y (K6.o s0) Tryz.underlying51 uF (by first | omega | (simp; omega) | (simp; done)) (by simp) rfl fun jg jh w7 K7 => ?_
  refine aR Y <| eT ?_
  refine aA.aS (aA.norm ?_)
  refine eP <| ev (Ev.add Y Y (eX.mk (by omega) (by omega))) <| mv Y <| eT ?_
  have hq3 : ((((l.take k).map AChunk.ID) ++ ([x1.ID] : List Int)) : List Int) = ((l.take (k + 1)).map AChunk.ID) := by rw [dK hx1, List.map_append]; rfl
  refine aA.re (t := 3) Y (congrArg (fun z => Value.slice jg (List.length z) jh) hq3) ?_
  rw [hq3] at K7
  exact aA.ag ⟨(k + 1), jg, jh, Y, Y, by omega, by exact gP (q := fun y => pX y = true) hall hx1 (by unfold pX; rw [hc25]; rfl), ((K7.rm s2).rm s1)⟩ rfl (by omega)
 replace jE := of_decide_eq_false jE
 refine WP.exit (aA.aF (aA.aF (aA.bS (aA.norm ?_))))
 refine rg <| mv Y <| ev (Ev.len Tryz.underlying23 Y) <| ev (Ev.leq Y Y) <| mv Y ?_
 refine WL.oI 3 38 ((decide (((l.length : Nat) : Int) ≤ 32)) && (fB 1048576 1 ((l.take k).map AChunk.ID))) ?_ ?_
 ·
  cases aij : decide (((l.length : Nat) : Int) ≤ 32) with
  | true =>
   have akF := of_decide_eq_true aij
   refine WL.bF Y (Ev.move Y) Y <| WL.jd Y Y Y Y Zy (KP _ (K1.o s0) 1 1048576 (by omega) (by omega)) Y ?_
   rintro _ w8 ⟨rfl, h8⟩
   have K8 := K1.c0 h8
   refine ev (Ev.bq Y Y) ?_
   exact WL.iY Y h8.ext
  | false =>
   refine WL.pass Y Y Y <| WL.pass Y Y Y <| ev (Ev.bn Y Y) ?_
   exact WL.iY Y (Ext.refl _)
 intro w9 e9
 have K9 := K1.grow e9
 refine aR Y <| dn ?_
 refine WP.ret (aA.aD Y Y Y ?_)
 have hq4 : (((decide (((l.length : Nat) : Int) ≤ 32)) && (fB 1048576 1 ((l.take k).map AChunk.ID))) : Bool) = (jA l) := by rw [List.take_of_length_le (by omega)] at hall ⊢; unfold jA; rw [show l.all pX = true from by rw [List.all_eq_true]; exact hall, show decide (((l.length : Nat) : Int) ≤ 32) = decide (l.length ≤ 32) from by rw [decide_eq_decide]; omega, Bool.true_and]
 exact ⟨by rw [hq4] <;> rfl, (K9.rm s0)⟩
theorem yA {S0 : Nat → Prop} (w : World) {qE : an3} {qF : Nat} {s : List AChunk} (j3 : Sl tChunk S0 w qE qF s) (hn : s.length ≤ 1000000) :
    bY Tryz.prog 58 #[.slice qE s.length qF] w fun v w' => ∃ (A0 : an3) (c0 : Nat), v = .slice A0 s.length c0 ∧ Hp w S0 w' [aQ tChunk 53 A0 c0 s] := by
 refine WP.enter Tryz.func58 Y Tryz.ntmps58 Y ?_
 have H0 := Hp.init w S0
 have yH := j3.aN
 refine rg <| aR Y <| dn <| WP.seq <| rg <| mv Y <| ev (Ev.Gn Tryz.underlying23 Y Y) <| dn ?_
 refine WP.aG Y (fun hc4 => ?_) (fun hc4 => ?_)
 ·
  refine rg <| aR Y <| dn ?_
  refine WP.ret (aA.aP (aA.aD Y Y Y ?_))
  have H1 := H0.nil tChunk 53
  have hq1 : (([] : List AChunk) : List AChunk) = s := by have h1 := j3.nil (by simpa using hc4); have h2 := j3.cap; exact (List.eq_nil_of_length_eq_zero (by omega)).symm
  have H2 := (hq1 ▸ H1 : Hp w S0 w (aQ tChunk 53 none 0 s :: []))
  exact ⟨none, 0, by rw [← hq1] <;> rfl, H2⟩
 refine WP.skip (aA.norm ?_)
 refine rg ?_
 refine bs0 (τ := tChunk) (vs := []) Y (by intro _; apply UA) rfl H0 fun g1 w1 K1 => ?_
 refine mv Y ?_
 refine apd (ys := s) K1 s0 Y Y (K1.a j3) Tryz.underlying23 Zz (by simp) (by first | omega | (simp; omega) | (simp; done)) rfl fun jg jh w2 K2 => ?_
 refine aR Y <| dn ?_
 refine WP.ret (aA.aD Y Y Y ?_)
 have hq2 : ((([] : List AChunk) ++ s) : List AChunk) = s := by simp
 rw [hq2] at K2
 exact ⟨jg, jh, by rw [hq2] <;> rfl, K2⟩
theorem RN {ks : List fZ} {i : Nat} {k k' : fZ} (hx : ks[i]? = some k) : (((ks.set i k').take (i + 1)).map tq) = ((ks.take i).map tq) ++ [tq k'] := by
  have h1 : (ks.set i k')[i]? = some k' := List.getElem?_set_self (aC hx)
  rw [dK h1, List.map_append, List.take_set_of_le (Nat.le_refl _)]; rfl
theorem UH {ks : List fZ} {i : Nat} {k k' : fZ} (hx : ks[i]? = some k) (hc : k'.c = k.c) : (ks.set i k').map fZ.c = ks.map fZ.c := by
  apply List.ext_getElem?
  intro j
  rw [List.getElem?_map, List.getElem?_map]
  by_cases h : i = j
  · subst h; rw [List.getElem?_set_self (aC hx), hx]; simp [hc]
  · rw [List.getElem?_set_ne h]
theorem KQ {S0 : Nat → Prop} (w : World) {d9 : an3} {eu : Nat} {l : List AChunk} (dN : Sl tChunk S0 w d9 eu l) (hn : l.length ≤ 100000) (hh : ∀ x ∈ l, x.av.length ≤ 100000) :
    bY Tryz.prog 67 #[.slice d9 l.length eu] w fun v w' => ∃ (A : an3) (c : Nat) (ks : List fZ), v = .slice A ks.length c ∧ ks.map fZ.c = iw l ∧ Hp w S0 w' [aQ tK 53 A c ks, pJ tInt 3 (ks.map tq)] := by
 refine WP.enter Tryz.func67 Y Tryz.ntmps67 Y ?_
 have iJ := dN.aN
 have H0 := Hp.init w S0
 refine rg <| aR Y <| dn <| WP.seq <| rg <| mv Y ?_
 refine C0 H0 Y Y Y UC (IU _ (H0.a dN).any (by omega)) fun w1 K1 => ?_
 refine ev (Ev.not Y) <| dn ?_
 refine WP.aG Y (fun hc8 => ?_) (fun hc8 => ?_)
 ·
  try simp only [an4, an5, an6, an7, an8, an9, aoa, aob] at hc8
  refine rg <| aR Y <| dn ?_
  refine WP.ret (aA.aP (aA.aD Y Y Y ?_))
  have H1 := K1.nil tK 53
  have H2 := H1.Zv tInt 3
  exact ⟨none, 0, [], Y, by rw [RL hc8]; rfl, (H2.sel s1)⟩
 try simp only [an4, an5, an6, an7, an8, an9, aoa, aob] at hc8
 refine WP.skip (aA.norm ?_)
 refine rg <| mv Y <| WL.call Y Y Y ZA (yA _ (K1.a dN) (by omega)) Y ?_
 rintro _ w2 ⟨lD, lF, rfl, h2⟩
 have K2 := K1.c1 h2
 refine aR Y <| dn <| WP.seq ?_
 obtain ⟨ks0, aef, HK1⟩ := Hp.toK K2 s0
 have HK2 := HK1.Zv tInt 3
 have ail : ks0.length = l.length := by rw [← aef, List.length_map]
 refine WP.re (t := 3) Y (congrArg (fun z => Value.slice lD z lF) ail.symm) <| rg <| mv Y <| ev (Ev.len Tryz.underlying23 Y) <| mv Y <| dn <| WP.block ?_
 have hq1 : [] = ((ks0.take 0).map tq) := by rfl
 rw [hq1] at HK2
 refine Lp ((HK2.rm s1).rm s0) (fun l0 rk mJ lJ wJ => ∃ (k : Nat) (ks : List fZ), lJ = (3, .slice lD ks.length lF) :: (11, .slice lD ks.length lF) :: (13, .int .i64 ((k : Nat) : Int)) :: l0 ∧ mJ = ks0.length - k ∧ k ≤ ks0.length ∧ (ks.length = ks0.length) ∧ (ks.map fZ.c = l) ∧ (∀ j, k ≤ j → ks[j]? = ks0[j]?) ∧ Hp w S0 wJ (aQ tK 53 lD lF ks :: pJ tInt 3 ((ks.take k).map tq) :: rk)) ⟨0, ks0, Y, Y, Nat.zero_le _, by rfl, by exact aef, by intro j _; rfl, ((HK2.sel s0).sel s1)⟩ rfl ?_
 rintro _ _ w3 ⟨k, ks, rfl, rfl, hk, hkn, hka, hkb, K3⟩
 refine rg <| ev (Ev.lss Y Y) <| dn ?_
 refine WP.cond Y (fun fE => ?_) (fun fE => ?_)
 ·
  replace fE := of_decide_eq_true fE
  refine WP.skip (aA.norm ?_)
  refine WP.seq <| WP.block <| rg <| mv Y ?_
  obtain ⟨x1, hx1⟩ := get_some (xs := ks) (i := k) (by omega)
  refine ev (Ev.index (i := k) Tryz.underlying23 gu Y Y Y (aC hx1) ((K3.o s0).some_ hx1)) <| ev (Ev.loadRow gQ Y Y ((K3.o s0).dx hx1)) ?_
  refine al iI Y K3 fun g1 w4 K4 => ?_
  refine aR Y ?_
  refine iW Y Y Y gu K4 s0 Y Y fun w5 K5 => ?_
  refine dn ?_
  have hin := K5.ah8 s3 (List.mem_map.2 ⟨x1, bV (by rw [← hkb k (Nat.le_refl _)]; exact hx1), rfl⟩ : (x1.B, x1.d, x1.c.av) ∈ _)
  have hHl : x1.c.av.length ≤ 100000 := hh x1.c (by rw [← hka]; exact List.mem_map.2 ⟨x1, bV hx1, rfl⟩)
  have H3 := K5.push hin
  refine eP <| mv Y <| mv Y <| ev (Ev.field (q := ⟨g1, 3, none⟩) fT Y Y) <| ev (Ev.aj gK Y (H3.x s1) Y) <| WL.call Y Y Y KN (o7 _ (H3.s s0).any (by omega)) Y ?_
  rintro _ w6 ⟨vO, vQ, rfl, h6⟩
  have K6 := H3.f1 h6
  have UJ := (K6.o s0).aN
  refine ev (Ev.index (i := k) Tryz.underlying23 gu Y Y Y (aC hx1) ((K6.o s3).some_ hx1)) <| ev (Ev.field fT Y (bJ _ _ _)) ?_
  refine se (i := k) (f := 3) (x := x1) (x' := ({ x1 with B := vO, d := vQ } : fZ)) (ds := [.slice vO x1.c.av.length vQ]) K6 s3 Y Y Y hx1 Y zm (Nat.le_of_ble_eq_true Y) Y (fun _ _ _ h => by have h' : _ = _ := h; subst h'; rfl) fun w7 K7 => ?_
  have hl1 : (ks.set k ({ x1 with B := vO, d := vQ } : fZ)).length = ks.length := List.length_set ..
  refine WL.re (t := 3) (u := .slice lD ks.length lF) (v := .slice lD ((ks.set k ({ x1 with B := vO, d := vQ } : fZ)).length) lF) Y (by rw [hl1]) ?_
  refine WL.re (t := 11) (u := .slice lD ks.length lF) (v := .slice lD ((ks.set k ({ x1 with B := vO, d := vQ } : fZ)).length) lF) Y (by rw [hl1]) ?_
  refine WL.re (t := 18) (u := .slice lD ks.length lF) (v := .slice lD ((ks.set k ({ x1 with B := vO, d := vQ } : fZ)).length) lF) Y (by rw [hl1]) ?_
  have hx2 : (ks.set k ({ x1 with B := vO, d := vQ } : fZ))[k]? = some ({ x1 with B := vO, d := vQ } : fZ) := List.getElem?_set_self (aC hx1)
  refine eT ?_
  refine aA.aS (aA.norm ?_)
  have H4 := K7.Um s1 s3
  refine eP <| ev (Ev.add Y Y (eX.mk (by omega) (by omega))) <| mv Y <| eT ?_
  have hq2 : ((ks.take k).map tq) ++ [(vO, vQ, x1.c.av)] = (((ks.set k ({ x1 with B := vO, d := vQ } : fZ)).take (k + 1)).map tq) := by rw [RN hx1]; rfl
  rw [hq2] at H4
  exact aA.ag ⟨(k + 1), (ks.set k ({ x1 with B := vO, d := vQ } : fZ)), Y, Y, by omega, by rw [List.length_set]; exact hkn, by refine (UH hx1 ?_).trans hka; rfl, by intro j hj; rw [List.getElem?_set_ne (by omega)]; exact hkb j (by omega), ((((H4.rm s3).rm s2).sel s0).sel s1)⟩ rfl (by omega)
 replace fE := of_decide_eq_false fE
 refine WP.exit (aA.aF (aA.aF (aA.bS (aA.norm ?_))))
 refine rg <| mv Y <| aR Y <| dn ?_
 refine WP.ret (aA.aD Y Y Y ?_)
 have hfin : ks.take k = ks := List.take_of_length_le (by omega)
 rw [hfin] at K3
 exact ⟨lD, lF, ks, Y, by rw [hka, wH hc8], (K3.rm s2)⟩
theorem YB {S0 : Nat → Prop} (w : World) {d9 : an3} {eu : Nat} {l : List AChunk} (dN : Sl tChunk S0 w d9 eu l) (hn : l.length ≤ 100000) (hh : ∀ x ∈ l, x.av.length ≤ 100000) :
    bY Tryz.prog 67 #[.slice d9 l.length eu] w fun v w' => ∃ (A0 : an3) (c0 : Nat), v = .slice A0 (iw l).length c0 ∧ Hp w S0 w' [aQ tChunk 53 A0 c0 (iw l)] := by
  refine (KQ w dN hn hh).mono ?_
  rintro _ w' ⟨A, c, ks, rfl, hk, K⟩
  have K1 := (K.Uo s1).ofK s1 s0
  rw [hk] at K1
  exact ⟨A, c, by rw [← hk, List.length_map], K1⟩
theorem CK {S0 : Nat → Prop} (w : World) {qE : an3} {qF : Nat} {s : List AChunk} (j3 : Sl tChunk S0 w qE qF s) (target : Int) {Aw : FuncId} {Az : List Value} (Oa : aM Tryz.prog Aw) (f : AChunk → Int → Int) (Ob : ∀ (w' : World) (x : AChunk) {aeg : an3} {aeh : Nat} (aei : Sl tInt Any w' aeg aeh x.av) (t : Int), Ext w w' → True → bY Tryz.prog Aw (([.agg #[.int .i64 x.ID, .int .i64 x.ay, .int .u32 x.Sum, .slice aeg x.av.length aeh], .int .i64 t] : List Value) ++ Az).toArray w' fun v w'' => v = .int .i64 (f x t) ∧ Ext w' w'') (hm : aaW (fun (y : AChunk) => f y target) s) (hn : s.length ≤ 1000000) :
    bY Tryz.prog 111 #[.slice qE s.length qF, .int .i64 target, .func (.func Aw) #[] Az.toArray] w fun v w' => v = .tuple #[.int .i64 ((low (fun (y : AChunk) => f y target) s : Nat) : Int), .bool (hits (fun (y : AChunk) => f y target) s)] ∧ Hp w S0 w' [] := by
 refine WP.enter Tryz.func111 Y Tryz.ntmps111 Y ?_
 have H0 := Hp.init w S0
 have yH := j3.aN
 refine rg <| aR Y <| aR Y <| dn <| rg <| mv Y <| ev (Ev.len Tryz.underlying23 Y) <| aR Y <| dn <| rg <| mv Y <| aR Y <| aR Y <| dn <| WP.seq ?_
 refine WP.block <| Lp H0 (fun l0 rk mJ lJ wJ => ∃ (i j : Nat), lJ = (9, .int .i64 ((i : Nat) : Int)) :: (10, .int .i64 ((j : Nat) : Int)) :: l0 ∧ mJ = j - i ∧ (i ≤ j ∧ j ≤ s.length) ∧ (∀ (a : Nat) (y : AChunk), a < i → s[a]? = some y → f y target < 0) ∧ (∀ (a : Nat) (y : AChunk), j ≤ a → s[a]? = some y → ¬ f y target < 0) ∧ Hp w S0 wJ rk) ⟨0, s.length, Y, Y, by exact ⟨Nat.zero_le _, Nat.le_refl _⟩, by intro a y ha; omega, by intro a y ha hy; have := aC hy; omega, H0⟩ rfl ?_
 rintro _ _ w1 ⟨i, j, rfl, rfl, hij, hlo, hhi, K1⟩
 refine WP.seq <| rg <| mv Y <| mv Y <| ev (Ev.lss Y Y) <| dn ?_
 refine WP.aG Y (fun hc17 => ?_) (fun hc17 => ?_)
 ·
  replace hc17 := of_decide_eq_true hc17
  refine WP.skip (aA.norm ?_)
  refine WP.block <| rg <| mv Y <| mv Y <| ev (Ev.add Y Y (eX.mk (by omega) (by omega))) <| ev (Ev.CY (m := i + j) tu.1 tu.2.1 tu.2.2 Y (zi (by omega))) <| ev (Ev.ad3 (m := i + j) Y Y) <| ev (Ev.CY (m := ((i + j) / 2)) tC.1 tC.2.1 tC.2.2 Y (zk (by omega))) <| aR Y <| dn <| rg <| mv Y <| mv Y <| mv Y ?_
  obtain ⟨x1, hx1⟩ := get_some (xs := s) (i := ((i + j) / 2)) (by omega)
  refine ev (Ev.index (i := ((i + j) / 2)) Tryz.underlying23 gu Y Y Y (aC hx1) ((K1.a j3).some_ hx1)) ?_
  obtain ⟨B1, d1, kL, hi1⟩ := AChunk.op (j3.row hx1)
  refine ev (Ev.loadRow (cs := [.int .i64 x1.ID, .int .i64 x1.ay, .int .u32 x1.Sum, .slice B1 x1.av.length d1]) gQ Y Y (oJ (fun j u hu => K1.ext.cell (kL j u hu)))) ?_
  refine mv Y <| WL.call Y Y Y Oa (Ob _ x1 (K1.a hi1).any target K1.ext trivial) Y ?_
  rintro _ w2 ⟨rfl, e2⟩
  have K2 := K1.grow e2
  refine ev (Ev.lss Y Y) <| dn ?_
  refine WP.aG Y (fun hc31 => ?_) (fun hc31 => ?_)
  ·
   replace hc31 := of_decide_eq_true hc31
   refine eP <| mv Y <| ev (Ev.add Y Y (eX.mk (by omega) (by omega))) <| aR Y <| eT <| aA.aS ?_
   exact aA.ag ⟨(((i + j) / 2) + 1), j, Y, Y, by omega, by first | exact hlo | exact fun a y ha hy => hm a _ y x1 (by omega) hy hx1 hc31, by first | exact hhi | exact fun a y ha hy hlt => hc31 (hm _ a x1 y (by omega) hx1 hy hlt), K2⟩ rfl (by omega)
  replace hc31 := of_decide_eq_false hc31
  refine eP <| mv Y <| aR Y <| eT <| aA.aS ?_
  exact aA.ag ⟨i, ((i + j) / 2), Y, Y, by omega, by first | exact hlo | exact fun a y ha hy => hm a _ y x1 (by omega) hy hx1 hc31, by first | exact hhi | exact fun a y ha hy hlt => hc31 (hm _ a x1 y (by omega) hx1 hy hlt), K2⟩ rfl (by omega)
 replace hc17 := of_decide_eq_false hc17
 refine WP.exit (aA.aF (aA.aF (aA.bS (aA.norm ?_))))
 refine rg <| mv Y <| mv Y <| mv Y <| ev (Ev.lss Y Y) <| mv Y ?_
 refine WL.oI 9 48 (hits (fun y => f y target) s) ?_ ?_
 ·
  cases UK : decide (((i : Nat) : Int) < ((s.length : Nat) : Int)) with
  | true =>
   have aej := of_decide_eq_true UK
   refine WL.bF Y (Ev.move Y) Y <| WL.bF Y (Ev.move Y) Y <| WL.bF Y (Ev.move Y) Y ?_
   obtain ⟨x2, hx2⟩ := get_some (xs := s) (i := i) (by omega)
   refine WL.bF Y (Ev.index (i := i) Tryz.underlying23 gu Y Y Y (aC hx2) ((K1.a j3).some_ hx2)) Y ?_
   obtain ⟨B2, d2, Oc, hi2⟩ := AChunk.op (j3.row hx2)
   refine WL.bF Y (Ev.loadRow (cs := [.int .i64 x2.ID, .int .i64 x2.ay, .int .u32 x2.Sum, .slice B2 x2.av.length d2]) gQ Y Y (oJ (fun j u hu => K1.ext.cell (Oc j u hu)))) Y ?_
   refine WL.bF Y (Ev.move Y) Y <| WL.jd Y Y Y Y Oa (Ob _ x2 (K1.a hi2).any target K1.ext trivial) Y ?_
   rintro _ w3 ⟨rfl, e3⟩
   have K3 := K1.grow e3
   refine WL.bF Y (Ev.eql Y Y) Y <| ev (Ev.bq Y Y) <| WL.re (t := 48) (u := .bool (decide (f x2 target = 0))) (v := .bool (hits (fun y => f y target) s)) Y (congrArg Value.bool (by have hl := wo (g := fun y => f y target) (s := s) (i := i) (by omega) hlo (fun a y ha => hhi a y (by omega)); unfold hits; rw [hl, hx2])) ?_
   exact WL.iY Y e3
  | false =>
   refine WL.pass Y Y Y <| WL.pass Y Y Y <| WL.pass Y Y Y <| WL.pass Y Y Y <| WL.pass Y Y Y <| WL.pass Y Y Y <| WL.pass Y Y Y <| WL.pass Y Y Y <| ev (Ev.bn Y Y) <| WL.re (t := 48) (u := .bool false) (v := .bool (hits (fun y => f y target) s)) Y (congrArg Value.bool (by have hl := wo (g := fun y => f y target) (s := s) (i := i) (by omega) hlo (fun a y ha => hhi a y (by omega)); unfold hits; rw [hl, List.getElem?_eq_none (by have := of_decide_eq_false UK; omega)])) ?_
   exact WL.iY Y (Ext.refl _)
 intro w4 e4
 have K4 := K1.grow e4
 refine aR Y <| aR Y <| dn ?_
 refine WP.ret (aA.aD Y Y Y ?_)
 have hq1 : (i : Nat) = (low (fun (y : AChunk) => f y target) s) := by exact (wo (g := fun y => f y target) (by omega) hlo (fun a y ha => hhi a y (by omega))).symm
 have hq2 : (hits (fun y => f y target) s : Bool) = (hits (fun (y : AChunk) => f y target) s) := by rfl
 exact ⟨by rw [hq2, ← hq1] <;> rfl, K4⟩
theorem Oe {S0 : Nat → Prop} (w : World) (c : AChunk) {kR : an3} {kS : Nat} (nC : Sl tInt S0 w kR kS c.av) (id : Int) :
    bY Tryz.prog 112 #[.agg #[.int .i64 c.ID, .int .i64 c.ay, .int .u32 c.Sum, .slice kR c.av.length kS], .int .i64 id] w fun v w' => v = .int .i64 (dP c.ID id) ∧ Hp w S0 w' [] := by
 refine WP.enter Tryz.func112 Y Tryz.ntmps112 Y ?_
 have H0 := Hp.init w S0
 refine rg ?_
 refine bx Y Y H0 fun g1 w1 K1 => ?_
 refine aR Y <| dn <| rg <| ev (Ev.field (q := ⟨g1, 0, none⟩) gI Y Y) <| ev (Ev.aj bf Y (K1.x s0) Y) <| mv Y ?_
 refine C0 K1 Y Y Y qD (jJ (S0 := Any) _ c.ID id) fun w2 K2 => ?_
 refine aR Y <| dn ?_
 refine WP.ret (aA.aD Y Y Y ?_)
 exact ⟨Y, (K2.rm s0)⟩
theorem GJ {S0 : Nat → Prop} (w : World) {d9 : an3} {eu : Nat} {l : List AChunk} (dN : Sl tChunk S0 w d9 eu l) (id : Int) (hu : Up AChunk.ID l) (hn : l.length ≤ 1000000) :
    bY Tryz.prog 68 #[.slice d9 l.length eu, .int .i64 id] w fun v w' => v = .tuple #[.int .i64 ((low (fun (y : AChunk) => dP y.ID id) l : Nat) : Int), .bool (hits (fun (y : AChunk) => dP y.ID id) l)] ∧ Hp w S0 w' [] := by
 refine WP.enter Tryz.func68 Y Tryz.ntmps68 Y ?_
 have H0 := Hp.init w S0
 have iJ := dN.aN
 refine rg <| aR Y <| aR Y <| dn <| rg <| mv Y <| mv Y ?_
 refine C0 H0 Y Y Y aa9 (CK _ (H0.a dN).any id (Az := []) aa8 (fun (x : AChunk) (t : Int) => dP x.ID t) (fun w' x => fun aei t e hm => (Oe w' x aei t).mono (by rintro _ _ ⟨rfl, hq2⟩; exact ⟨rfl, hq2.ext⟩)) (hu.mono id) (by omega)) fun w1 K1 => ?_
 refine xt Y Y <| xt Y Y <| aR Y <| aR Y <| dn ?_
 refine WP.ret (aA.aD Y Y Y ?_)
 exact ⟨Y, K1⟩
def aL (l : List AChunk) (id : Int) : AChunk := match (iw l)[low (fun (y : AChunk) => dP y.ID id) (iw l)]? with | some c => if c.ID = id then c else ⟨0, 0, 0, []⟩ | none => ⟨0, 0, 0, []⟩
def gG (l : List AChunk) (id : Int) : Bool := hits (fun (y : AChunk) => dP y.ID id) (iw l)
theorem DL {l : List AChunk} {id : Int} (h : hits (fun (y : AChunk) => dP y.ID id) (iw l) = false) : aL l id = ⟨0, 0, 0, []⟩ := by
  unfold aL; split
  · rename_i c hc
    rw [if_neg]
    intro e
    have := (wu (wG l) id).2 ⟨c, bV hc, e⟩
    rw [h] at this; cases this
  · rfl
theorem AA {l : List AChunk} {id : Int} {c : AChunk} (h : hits (fun (y : AChunk) => dP y.ID id) (iw l) = true) (hc : (iw l)[low (fun (y : AChunk) => dP y.ID id) (iw l)]? = some c) : aL l id = c := by
  unfold aL; rw [hc]
  obtain ⟨x, hx, hk⟩ := pV (key := AChunk.ID) h
  rw [hc] at hx; cases hx
  exact if_pos hk
theorem find_ok {S0 : Nat → Prop} (w : World) {d9 : an3} {eu : Nat} {l : List AChunk} (dN : Sl tChunk S0 w d9 eu l) (id : Int) (hn : l.length ≤ 100000) (hh : ∀ x ∈ l, x.av.length ≤ 100000) :
    bY Tryz.prog 25 #[.slice d9 l.length eu, .int .i64 id] w fun v w' => ∃ (B0_0 : an3) (qG : Nat), v = .tuple #[.agg #[.int .i64 ((aL l id).ID), .int .i64 ((aL l id).ay), .int .u32 ((aL l id).Sum), .slice B0_0 (((aL l id).av).length) qG], .bool (gG l id)] ∧ Hp w S0 w' [fM tInt B0_0 qG ((aL l id).av)] := by
 refine WP.enter Tryz.func25 Y Tryz.ntmps25 Y ?_
 have H0 := Hp.init w S0
 have iJ := dN.aN
 have hf := GI l
 have hlow := Ud (fun (y : AChunk) => dP y.ID id) (iw l)
 refine rg ?_
 refine al iI Y H0 fun g1 w1 K1 => ?_
 refine aR Y <| dn <| rg <| mv Y <| WL.call Y Y Y ZB (YB _ (K1.a dN) (by omega) hh) Y ?_
 rintro _ w2 ⟨lD, lF, rfl, h2⟩
 have K2 := K1.c1 h2
 have DN := (K2.o s0).aN
 refine aR Y <| dn <| rg <| mv Y <| mv Y ?_
 refine C0 K2 Y Y Y ZC (GJ _ (K2.o s0) id (wG l) (by omega)) fun w3 K3 => ?_
 refine mv Y <| xt Y Y <| xt Y Y <| aR Y <| aR Y <| dn <| WP.seq <| rg <| mv Y <| ev (Ev.not Y) <| dn ?_
 refine WP.aG Y (fun hc17 => ?_) (fun hc17 => ?_)
 ·
  try simp only [an4, an5, an6, an7, an8, an9, aoa, aob] at hc17
  refine rg <| ev (Ev.build (vs := []) (cs := [.int .i64 0, .int .i64 0, .int .u32 0, .slice none 0 0]) Y (by apply N9)) ?_
  refine iW Y Y Y gu K3 s1 Y Y fun w4 K4 => ?_
  refine aR Y <| dn ?_
  refine WP.ret (aA.aP (aA.oG Y ⟨_, _, Y, ⟨_, Y, eH (cs := [.int .i64 0, .int .i64 0, .int .u32 0, .slice none 0 0]) gQ Y (K4.x s0)⟩, ⟨_, _, Y, Y, Y⟩⟩ ?_))
  have hq1 : ((⟨0, 0, 0, []⟩ : AChunk) : AChunk) = (aL l id) := by exact (DL hc17).symm
  have hq2 : (0 : Int) = (aL l id).ID := by rw [← hq1]
  have hq3 : (0 : Int) = (aL l id).ay := by rw [← hq1]
  have hq4 : (0 : Int) = (aL l id).Sum := by rw [← hq1]
  have H1 := K4.push (Sl.none_ tInt _ _)
  have kP : (([] : List Int) : List Int) = ((aL l id).av) := by rw [← hq1]
  have ny : (false : Bool) = (gG l id) := by unfold gG; rw [hc17]
  exact ⟨none, 0, by first | (rw [← hq2, ← hq3, ← hq4, ← ny, ← kP] <;> rfl) | (rw [← kP, ← hq2, ← hq3, ← hq4, ← ny] <;> rfl), by rw [← kP]; exact ((H1.rm s2).rm s1)⟩
 try simp only [an4, an5, an6, an7, an8, an9, aoa, aob] at hc17
 have hc17 : hits (fun (y : AChunk) => dP y.ID id) (iw l) = true := hc17
 obtain ⟨xb, hxb, hkb⟩ := pV (key := AChunk.ID) hc17
 have abd := aC hxb
 refine WP.skip (aA.norm ?_)
 refine rg <| mv Y <| mv Y ?_
 obtain ⟨x1, hx1⟩ := get_some (xs := iw l) (i := low (fun (y : AChunk) => dP y.ID id) (iw l)) (by omega)
 refine ev (Ev.index (i := low (fun (y : AChunk) => dP y.ID id) (iw l)) Tryz.underlying23 gu Y Y Y (aC hx1) ((K3.o s0).some_ hx1)) ?_
 obtain ⟨B1, d1, kL, hi1⟩ := AChunk.op (K3.oi s0 hx1)
 have H2 := K3.push hi1
 refine ev (Ev.loadRow (cs := [.int .i64 x1.ID, .int .i64 x1.ay, .int .u32 x1.Sum, .slice B1 x1.av.length d1]) gQ Y Y (oJ kL)) ?_
 refine iW Y Y Y gu H2 s2 Y Y fun w5 K5 => ?_
 refine aR Y <| dn ?_
 refine WP.ret (aA.oG Y ⟨_, _, Y, ⟨_, Y, eH (cs := [.int .i64 x1.ID, .int .i64 x1.ay, .int .u32 x1.Sum, .slice B1 x1.av.length d1]) gQ Y (K5.x s0)⟩, ⟨_, _, Y, Y, Y⟩⟩ ?_)
 have kT : (x1 : AChunk) = (aL l id) := by exact (AA hc17 hx1).symm
 have hq8 : (x1.ID : Int) = (aL l id).ID := by rw [← kT]
 have uj : (x1.ay : Int) = (aL l id).ay := by rw [← kT]
 have jK : (x1.Sum : Int) = (aL l id).Sum := by rw [← kT]
 have hq11 : (x1.av : List Int) = ((aL l id).av) := by rw [← kT]
 have hq12 : (true : Bool) = (gG l id) := by unfold gG; rw [hc17]
 exact ⟨B1, d1, by first | (rw [hq8, uj, jK, hq11, ← hq12] <;> rfl) | (rw [hq11, hq8, uj, jK, ← hq12] <;> rfl), by rw [← hq11]; exact ((K5.rm s2).rm s0)⟩
end Go.Proofs.YtjcklpooaaaglaaGreat
set_option maxRecDepth 4000
set_option linter.all false
namespace Go.Proofs.YtjcklpooaaaglaaGreat
open Go.RowKit
theorem KR (ks : List fZ) : (ks.map fZ.c).length = ks.length := List.length_map _
theorem yI {most : Int} : ∀ (l : List Int) (z : Int), fB most z l = true → l = [] ∨ (l.length : Int) ≤ most + 1 - z
  | [], _, _ => .inl rfl
  | y :: l, z, h => by
    simp only [fB, Bool.and_eq_true, Bool.not_eq_true', Bool.or_eq_false_iff, decide_eq_false_iff_not] at h
    right
    rcases yI l _ h.2 with rfl | h1
    · simp; omega
    · simp only [List.length_cons]; omega
theorem qo {c : AChunk} (h : pX c = true) : 1 ≤ c.ay ∧ c.ay ≤ 1073741824 ∧ fB 16 1 c.av = true := by
  simp only [pX, Bool.not_eq_true', Bool.or_eq_false_iff, decide_eq_false_iff_not, Bool.not_eq_false'] at h
  exact ⟨by omega, by omega, h.2⟩
theorem UL {c : AChunk} (h : pX c = true) : c.av.length ≤ 16 := by
  rcases yI _ _ (qo h).2.2 with h1 | h1
  · rw [h1]; simp
  · omega
theorem YC {c : AChunk} (h : pX c = true) : Up (fun (x : Int) => x) c.av := xE _ _ (qo h).2.2
theorem GK (l : List AChunk) : ∀ x ∈ iw l, pX x = true := (j4.1 (xG l)).1
theorem UM {α : Type} {key : α → Int} {l : List α} (hu : Up key l) {x y : α} (hx : x ∈ l) (hy : y ∈ l) (h : key x = key y) : x = y := by
  obtain ⟨i, hi⟩ := List.getElem?_of_mem hx
  obtain ⟨j, hj⟩ := List.getElem?_of_mem hy
  rcases Nat.lt_trichotomy i j with h1 | h1 | h1
  · have := hu.get h1 hi hj; omega
  · subst h1; rw [hi] at hj; exact Option.some.inj hj
  · have := hu.get h1 hj hi; omega
theorem UN {l : List AChunk} (h : jA l = true) : Up AChunk.ID l := by have := wG l; rwa [wH h] at this
theorem IW {l : List AChunk} (h : jA l = true) : ∀ x ∈ l, pX x = true := (j4.1 h).1
theorem DR {l : List AChunk} (h : jA l = true) {j : Int} (hb : gG l j = true) : l[low (fun (y : AChunk) => dP y.ID j) l]? = some (aL l j) ∧ (aL l j).ID = j := by
  unfold gG at hb
  obtain ⟨x, hx, hk⟩ := pV (key := AChunk.ID) hb
  have h1 := AA hb hx
  rw [wH h] at hx
  rw [h1]; exact ⟨hx, hk⟩
theorem UO {l : List AChunk} (h : jA l = true) {j : Int} : gG l j = true ↔ ∃ c ∈ l, c.ID = j := by
  unfold gG; rw [wH h]; exact wu (UN h) j
theorem YD {l : List AChunk} (h : jA l = true) {j : Int} (hb : gG l j = true) : aL l j ∈ l := bV (DR h hb).1
theorem KS {l : List AChunk} (h : jA l = true) {c : AChunk} (hc : c ∈ l) : gG l c.ID = true ∧ aL l c.ID = c := by
  have h1 := (UO h).2 ⟨c, hc, rfl⟩
  exact ⟨h1, UM (UN h) (YD h h1) hc (DR h h1).2⟩
def yc (l : List AChunk) : Bool := decide (l.length ≤ 60) && l.all (fun c => decide (c.av.length ≤ 30))
theorem abe {l : List AChunk} (h : yc l = true) : l.length ≤ 60 ∧ ∀ x ∈ l, x.av.length ≤ 30 := by
  simp only [yc, Bool.and_eq_true, List.all_eq_true, decide_eq_true_eq] at h; exact h
end Go.Proofs.YtjcklpooaaaglaaGreat
set_option maxRecDepth 4000
set_option linter.all false
namespace Go.Proofs.YtjcklpooaaaglaaGreat
open Go.RowKit
def jX (l : List Int) (k : Nat) (x : Int) : Bool := match k with
  | 0 => false
  | k + 1 => match l[k]? with | some y => decide (x ≤ y) | none => false
theorem wI {l : List Int} {k : Nat} {x : Int} (h : ¬ 0 < k) : jX l k x = false := by
  cases k with
  | zero => rfl
  | succ k => omega
theorem AB {l : List Int} {k : Nat} {x y : Int} (h : 0 < k) (hy : l[k - 1]? = some y) : jX l k x = decide (x ≤ y) := by
  cases k with
  | zero => omega
  | succ k => simp only [jX]; rw [show k + 1 - 1 = k from rfl] at hy; rw [hy]
def AJ (z : Int) (m : List Int) : Int := match m.getLast? with | some y => y + 1 | none => z
theorem KT (z y a : Int) (m : List Int) : AJ z (y :: a :: m) = AJ (y + 1) (a :: m) := by
  unfold AJ
  rw [List.getLast?_cons_cons]
  cases h : (a :: m).getLast? with
  | none => simp at h
  | some _ => rfl
theorem BM {most : Int} : ∀ (m : List Int) (z x : Int), fB most z (m ++ [x]) = (fB most z m && !(decide (x < AJ z m) || decide (most < x)))
  | [], z, x => by simp only [List.nil_append, fB, Bool.and_true, Bool.true_and]; rfl
  | [y], z, x => by simp only [List.cons_append, List.nil_append, fB, Bool.and_true]; rfl
  | y :: a :: m, z, x => by
    have ih := BM (most := most) (a :: m) (y + 1) x
    rw [KT, List.cons_append]
    show (_ && fB most (y + 1) ((a :: m) ++ [x])) = (_ && fB most (y + 1) (a :: m) && _)
    rw [ih, Bool.and_assoc]
theorem tF {most : Int} {l : List Int} {k : Nat} {x : Int} (hx : l[k]? = some x) (h : fB most 1 (l.take k) = true) : fB most 1 (l.take (k + 1)) = !((decide (x < 1) || decide (most < x)) || jX l k x) := by
  rw [dK hx, BM, h, Bool.true_and]
  congr 1
  cases k with
  | zero => simp only [jX, Bool.or_false]; rfl
  | succ k =>
    obtain ⟨y, hy⟩ := get_some (xs := l) (i := k) (by have := aC hx; omega)
    have h1 := qm _ _ h y (by rw [dK hy]; simp)
    have h2 : AJ 1 (l.take (k + 1)) = y + 1 := by unfold AJ; rw [dK hy]; simp
    rw [h2]; simp only [jX, hy]
    rw [Bool.eq_iff_iff]; simp; omega
theorem zn {l : List AChunk} {k : Nat} {x : AChunk} (h : l[k]? = some x) : (l.map AChunk.ID)[k]? = some x.ID := by rw [List.getElem?_map, h]; rfl
theorem DT {most : Int} : ∀ (l m : List Int) (z : Int), fB most z (l ++ m) = true → fB most z l = true
  | [], _, _, _ => rfl
  | y :: l, m, z, h => by
    simp only [List.cons_append, fB, Bool.and_eq_true] at h ⊢
    exact ⟨h.1, DT l m _ h.2⟩
theorem DU {most : Int} {l : List Int} {k : Nat} (h : fB most 1 (l.take (k + 1)) = false) : fB most 1 l = false := by
  cases h2 : fB most 1 l with
  | false => rfl
  | true => rw [← List.take_append_drop (k + 1) l] at h2; rw [DT _ _ _ h2] at h; cases h
theorem yJ {l : List AChunk} {x : AChunk} (hx : x ∈ l) (h : pX x = false) : jA l = false := by
  cases h2 : jA l with
  | false => rfl
  | true => rw [IW h2 x hx] at h; cases h
theorem yK {l : List AChunk} {k : Nat} (h : fB 1048576 1 ((l.map AChunk.ID).take (k + 1)) = false) : jA l = false := by
  unfold jA; rw [DU h]; simp
theorem YE {c : AChunk} {k : Nat} (h : fB 16 1 (c.av.take (k + 1)) = false) : pX c = false := by
  unfold pX; rw [DU h]; simp
theorem abf {l : List AChunk} (hu : Up AChunk.ID l) {n : Nat} {x : AChunk} {id : Int} (hx : l[n]? = some x) (hid : x.ID = id) : low (fun (y : AChunk) => dP y.ID id) l = n := by
  refine wo (by have := aC hx; omega) (fun a y ha hy => ?_) (fun a y ha hy => ?_)
  · rw [qB]; have := hu.get ha hy hx; omega
  · rw [qB]
    rcases Nat.lt_or_ge n a with h1 | h1
    · have := hu.get h1 hx hy; omega
    · have : n = a := by omega
      subst this; rw [hx] at hy; cases hy; omega
theorem AP (l : List AChunk) (id : Int) : aL (iw l) id = aL l id ∧ gG (iw l) id = gG l id := by
  unfold aL gG; rw [wH (xG l)]; exact ⟨rfl, rfl⟩
theorem Qb (l : List AChunk) (id : Int) : (idxOf (fun (y : AChunk) => decide (y.ID = id)) (iw l) = -1 ∧ gG l id = false) ∨ ∃ (n : Nat) (x : AChunk), idxOf (fun (y : AChunk) => decide (y.ID = id)) (iw l) = (n : Int) ∧ (iw l)[n]? = some x ∧ x.ID = id ∧ gG l id = true ∧ aL l id = x ∧ low (fun (y : AChunk) => dP y.ID id) (iw l) = n := by
  rcases oK (fun (y : AChunk) => decide (y.ID = id)) (iw l) with ⟨h1, h2⟩ | ⟨n, x, h1, h2, h3, _⟩
  · left; refine ⟨h1, ?_⟩
    cases hb : gG l id with
    | false => rfl
    | true =>
      rw [← (AP l id).2] at hb
      have h3 := DR (xG l) hb
      have h4 := h2 _ (bV h3.1)
      simp [h3.2] at h4
  · right
    have h4 : x.ID = id := by simpa using h3
    have h5 := KS (xG l) (bV h2)
    rw [h4, (AP l id).1, (AP l id).2] at h5
    exact ⟨n, x, h1, h2, h4, h5.1, h5.2, abf (wG l) h2 h4⟩
def iD (f : Int → Bool) : Nat → List Int
  | 0 => []
  | n + 1 => iD f n ++ (if f ((n + 1 : Nat) : Int) then [((n + 1 : Nat) : Int)] else [])
theorem xH (f : Int → Bool) : ∀ (n : Nat) (x : Int), x ∈ iD f n ↔ 1 ≤ x ∧ x ≤ n ∧ f x = true
  | 0, x => by simp [iD]; omega
  | n + 1, x => by
    simp only [iD, List.mem_append, xH f n]
    split
    · rename_i h
      simp only [List.mem_singleton]
      constructor
      · rintro (h1 | h1)
        · exact ⟨h1.1, by omega, h1.2.2⟩
        · subst h1; exact ⟨by omega, by omega, h⟩
      · rintro ⟨h1, h2, h3⟩
        by_cases e : x = ((n + 1 : Nat) : Int)
        · exact .inr e
        · exact .inl ⟨h1, by omega, h3⟩
    · rename_i h
      simp only [List.not_mem_nil, or_false]
      constructor
      · rintro h1; exact ⟨h1.1, by omega, h1.2.2⟩
      · rintro ⟨h1, h2, h3⟩
        refine ⟨h1, ?_, h3⟩
        rcases (by omega : (n : Int) < x ∨ x ≤ n) with h4 | h4
        · have : x = ((n + 1 : Nat) : Int) := by omega
          subst this; exact absurd h3 h
        · exact h4
theorem DV (f : Int → Bool) : ∀ (n : Nat), (iD f n).Pairwise (fun x y => x < y)
  | 0 => List.Pairwise.nil
  | n + 1 => by
    simp only [iD]
    refine List.pairwise_append.2 ⟨DV f n, by split <;> simp, fun x hx y hy => ?_⟩
    have h1 := (xH f n x).1 hx
    split at hy
    · rw [List.mem_singleton.1 hy]; omega
    · simp at hy
theorem AU (f : Int → Bool) : ∀ (n : Nat), (iD f n).length ≤ n
  | 0 => Nat.le_refl _
  | n + 1 => by simp only [iD, List.length_append]; have := AU f n; split <;> simp <;> omega
theorem abg (a b : AChunk) : (((decide (a.av = b.av) && decide (a.ID = b.ID)) && decide (a.ay = b.ay)) && decide (a.Sum = b.Sum)) = decide (a = b) := by
  obtain ⟨a1, a2, a3, a4⟩ := a; obtain ⟨b1, b2, b3, b4⟩ := b
  rw [Bool.eq_iff_iff]
  simp only [Bool.and_eq_true, decide_eq_true_eq, AChunk.mk.injEq]
  constructor
  · rintro ⟨⟨⟨h1, h2⟩, h3⟩, h4⟩; exact ⟨h2, h3, h4, h1⟩
  · rintro ⟨h2, h3, h4, h1⟩; exact ⟨⟨⟨h1, h2⟩, h3⟩, h4⟩
theorem KU {α : Type} {a b : List α} {k : Nat} (h : a.take k = b.take k) (h1 : a.length ≤ k) (h2 : a.length = b.length) : a = b := by
  rwa [List.take_of_length_le h1, List.take_of_length_le (by omega)] at h
theorem YF {α : Type} {a b : List α} {k : Nat} {x y : α} (hx : a[k]? = some x) (hy : b[k]? = some y) (h : x ≠ y) : a ≠ b := by
  rintro rfl; rw [hx] at hy; cases hy; exact h rfl
theorem IX {α : Type} {a b : List α} {k : Nat} {x y : α} (h : a.take k = b.take k) (hx : a[k]? = some x) (hy : b[k]? = some y) (e : x = y) : a.take (k + 1) = b.take (k + 1) := by
  rw [dK hx, dK hy, h, e]
theorem tH {most : Int} : ∀ (l : List Int) (z : Int), fB most z l = true ↔ l.Pairwise (fun x y => x < y) ∧ ∀ x ∈ l, z ≤ x ∧ x ≤ most
  | [], z => by simp [fB]
  | y :: l, z => by
    constructor
    · intro h; exact ⟨xE _ _ h, qm _ _ h⟩
    · rintro ⟨h1, h2⟩
      have h3 := List.pairwise_cons.1 h1
      have h4 := h2 y (by simp)
      simp only [fB, Bool.and_eq_true, Bool.not_eq_true', Bool.or_eq_false_iff, decide_eq_false_iff_not]
      refine ⟨⟨by omega, by omega⟩, (tH l (y + 1)).2 ⟨h3.2, fun x hx => ?_⟩⟩
      have h5 := h3.1 x hx
      have h6 := h2 x (by simp [hx])
      omega
theorem RO {most z : Int} {l m : List Int} (h : fB most z l = true) (s : m.Sublist l) : fB most z m = true := by
  obtain ⟨h1, h2⟩ := (tH l z).1 h
  exact (tH m z).2 ⟨h1.sublist s, fun x hx => h2 x (s.subset hx)⟩
end Go.Proofs.YtjcklpooaaaglaaGreat
