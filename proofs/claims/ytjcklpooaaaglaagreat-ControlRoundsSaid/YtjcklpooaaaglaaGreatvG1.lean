/- Texts that the statement needs, with short names. -/
import Derived.OrdersHeld
import Derived.Laws.CopyRow
import Derived.Laws.IdiomCopy
import Derived.Lib.Overlaps
import Derived.Lib.AppendZerosOnto
import Derived.Test.YtjcklpooaaaglaaGreatvG0
set_option linter.all false
namespace Go.Proofs.YtjcklpooaaaglaaGreat
open Go.RowKit
def Only (K : Act → World → Prop) : Exit → Act → World → Prop
  | .normal, a, w => K a w
  | _, _, _ => False
def WH (P : Program) (n : Cx) (ops : Array Oper) (K : Act → World → Prop) (S : World → Prop) (fuel : Nat) (listed : Array Bool) (l : List (Nat × Value)) (w : World) : Prop :=
  ∀ a, Has n l a → wpAnyH P .any ops (Only K) S fuel listed a w
def HK (P : Program) (ops : Array Oper) (K : Act → World → Prop) (S : World → Prop) (fuel : Nat) (listed : Array Bool) : Act → World → Prop :=
  fun a w => S w ∧ wpAnyH P .any ops (Only K) S fuel listed a w
def JK (n : Cx) (J : List (Nat × Value) → World → Prop) : Act → World → Prop := fun a w => ∃ l, Has n l a ∧ J l w
section
variable {P : Program} {n : Cx} {l l' : List (Nat × Value)} {w w' : World} {Q : Exit → Act → World → Prop} {K : Act → World → Prop} {ops : Array Oper} {S : World → Prop} {fuel : Nat} {listed : Array Bool}
theorem WP.held {ol : List Oper} {id : Nat} {y : Code} (S : World → Prop) (J : List (Nat × Value) → World → Prop) (hm : P.follows .mixedOrders = true)
    (h : WH P n ol.toArray (JK n J) S ol.length (List.replicate ol.length false).toArray l w.drew) (k : ∀ l' w', J l' w' → WP P n y l' w' Q) (hro : n.round = none := by rfl) : WP P n (.seq (.region id ol.toArray true) y) l w Q := fun a ha => by
  refine wpIn_seq ?_
  have e : n.fence = Fence.wide := Cx.nA hro
  suffices hx : (Code.region id ol.toArray true).wp P (Exit.then (J7 P n y Q) Q) a w by
    show (Code.region id ol.toArray true).wpIn n.fence 0 P (Exit.then (J7 P n y Q) Q) a w
    rw [e]
    exact wpIn_wide.2 hx
  refine wp_mono (wp_region_held (Q := Only (JK n J)) (S := S) hm ?_) ?_
  · have := h a ha
    simpa using this
  · intro e a' w' hq
    cases e with
    | normal => obtain ⟨l', h1, h2⟩ := hq; exact k l' w' h2 a' h1
    | _ => exact hq.elim
theorem WP.Ub {ol : List Oper} {id : Nat} (S : World → Prop) (J : List (Nat × Value) → World → Prop) (hm : P.follows .mixedOrders = true)
    (h : WH P n ol.toArray (JK n J) S ol.length (List.replicate ol.length false).toArray l w.drew) (k : ∀ l' w', J l' w' → aA n Q .normal l' w') (hro : n.round = none := by rfl) : WP P n (.region id ol.toArray true) l w Q := fun a ha => by
  rw [Cx.nA hro]
  refine wpIn_wide.2 ?_
  refine wp_mono (wp_region_held (Q := Only (JK n J)) (S := S) hm ?_) ?_
  · have := h a ha
    simpa using this
  · intro e a' w' hq
    cases e with
    | normal => obtain ⟨l', h1, h2⟩ := hq; exact k l' w' h2 a' h1
    | _ => exact hq.elim
theorem WH.done {J : List (Nat × Value) → World → Prop} (l' : List (Nat × Value)) (hr : Region.ready .any ops listed = []) (hs : Rh l l') (hJ : J l' w) : WH P n ops (JK n J) S fuel listed l w :=
  fun _ ha => wpAnyH_done hr ⟨l', ha.subs hs, hJ⟩ fuel
theorem WH.all {rs : List Nat} (hr : Region.ready .any ops listed = rs) (hne : rs ≠ [])
    (h : ∀ i ∈ rs, ∃ o, ops[i]? = some o ∧ WL P n.oV ops (Only K) (HK P ops K S fuel (listed.setIfInBounds i true)) [o] l w) : WH P n ops K S (fuel + 1) listed l w := fun a ha =>
  wpAnyH_all hr hne fun i hi => by
    obtain ⟨o, ho, hk⟩ := h i hi
    have h1 := hk a ⟨ha.defers, ha.size, ha.get⟩
    unfold FL at h1
    unfold wpOp
    rw [ho]
    show (if Region.wanted o (yielded ops a.tmps) then _ else _)
    split
    · rename_i hw
      rw [if_pos hw] at h1
      exact .inl h1
    · rename_i hw
      rw [if_neg hw] at h1
      exact h1
theorem WH.next (hS : S w) (h : WH P n ops K S fuel listed l w) : WL P n.oV ops (Only K) (HK P ops K S fuel listed) [] l w := fun a ha => ⟨hS, h a ⟨ha.defers, ha.size, ha.get⟩⟩
end
section
variable {P : Program} {n : Cx} {l : List (Nat × Value)} {w : World} {t ty : TypeId} {x y : Operand}
theorem Ev.neS {xs ys : Array Value} {b : Bool} (hx : gF l x = some (.agg xs)) (hy : gF l y = some (.agg ys)) (heq : ∀ w, (Op.equalIn 10000 t (.agg xs) (.agg ys)).run P w = .ok b w) (hm : P.eqGuardType P.depth t = false) : Ev P n l w (.binOp .neq t x y ty) (.bool (!b)) := fun o a w' ho ha _ => by
  unfold execOp; rw [ho]
  simp [ha.eval hx, ha.eval hy, run_eqGuard_agg w' .neq t x y xs ys hm, run_neq_struct, heq]
end
section
variable {P : Program} {n : Cx} {l : List (Nat × Value)} {w : World} {Q : Exit → Act → World → Prop} {K : Act → World → Prop} {ops : Array Oper} {os : List Oper} {ty : TypeId} {pos : String} {jI : Array Edge} {d : Nat}
theorem Aq {α : Type} (τ : Ty α) {t e ti : TypeId} {bytes : Nat} (hT : P.underlying t = some (.slice e)) (hi : P.underlying ti = some (.int .i64)) (hI : je P e τ.k bytes) (m : Nat) (h0 : 0 < m) (hm : m ≤ 1000000) (hby : Nat.ble bytes 1000 = true) (r : TypeId) :
    ∃ g c w', (Builtin.append_ #[t, ti] r #[.slice none 0 0, .int .i64 (m : Int)]).run P w = .ok (.slice (some ⟨g, 0, none⟩) m c) w' ∧ Ext w w' ∧ Own τ e w.heap.size No w' (some ⟨g, 0, none⟩) c [] := by
  obtain ⟨i, z, h1, h2, h3, h4, h5⟩ := hI.ex
  have hb : bytes ≤ 1000 := Nat.le_of_ble_eq_true hby
  have hw : IntKind.i64.wrap (m : Int) = (m : Int) := (eX.mk (by omega) (by omega)).wrap
  have hmb : m * bytes ≤ 1000000 * 1000 := Nat.mul_le_mul hm hb
  have alM : (m : Int) * (bytes : Int) ≤ 1000000000 := by
    have : ((m * bytes : Nat) : Int) ≤ 1000000000 := by omega
    rwa [Int.natCast_mul] at this
  have hnx : Builtin.nextslicecap m 0 = m := nextslicecap_zero h0
  have hz1 : z.cells.size = τ.k := h5
  refine ⟨w.heap.size, grownCap w m 0 e, (w.drew).alloc (.cells ((#[] : Array Value) ++ Builtin.zeroCells z.cells m ++ Builtin.zeroCells z.cells (grownCap w m 0 e - m)) e), ?_, ?_, ?_⟩
  · have hcond : ¬ (m : Int) * (bytes : Int) > 2 ^ 48 := by omega
    have aaT : ¬ m * bytes > 2 ^ 48 := by omega
    have hf : (Question.appendCap m 0 e).forced = false := rfl
    have hne : ¬ m * τ.k = 0 := by
      have := τ.pos
      intro h
      rcases Nat.mul_eq_zero.1 h with h | h <;> omega
    have hmx : ¬ (IntKind.i64.max < (m : Int)) := by
      have e2 : IntKind.i64.max = 9223372036854775807 := by decide
      omega
    simp [Builtin.append_, run_underlying hT, run_underlying hi, sizeOf, typeInfo, h1, h2, h3, h4, asInt, asIntOf, hw, zeroValue, Builtin.firstCells, newRow, hne, hf, hnx, aaT, hmx]
    have hm0 : ¬ (m : Int) < 0 := by omega
    have hm1 : ¬ (281474976710656 < (m : Int) * (bytes : Int)) := by omega
    have hm2 : ¬ (m ≤ 0) := by omega
    have hm3 : ¬ (m = 0) := by omega
    have hm4 : ¬ (281474976710656 < m * bytes) := by omega
    have hm5 : ¬ (9223372036854775807 < (m : Int)) := by omega
    simp [hm0, hm1, hm2, hm3, hm4, hm5, grownCap]
  · exact ⟨Y, Y, Y, by simp, fun k hk => Below.heap_alloc w.drew _ k hk, Nat.le_succ _⟩
  · have hge := grownCap_ge w m 0 e
    have hle := grownCap_le_maxLen w m 0 e (by simp only [maxLen]; omega)
    refine ⟨[], Y, fun i x hx => by simp at hx, by simp, .inr ⟨w.heap.size, _, _, rfl, Nat.le_refl _, heap_alloc_new w.drew _, Nat.zero_le _, hle, ?_, by simp⟩⟩
    simp only [Array.size_append, List.size_toArray, List.length_nil, Nat.zero_add, size_zeroCells, hz1, ← Nat.add_mul]
    congr 1
    omega
theorem WL.Ku {α : Type} (τ : Ty α) {t e ti : TypeId} {bytes m : Nat} {s x : Operand} (hs : gF l s = some (.slice none 0 0)) (hx : gF l x = some (.int .i64 (m : Int))) (hT : P.underlying t = some (.slice e)) (hi : P.underlying ti = some (.int .i64)) (hI : je P e τ.k bytes) (h0 : 0 < m) (hm : m ≤ 1000000) (hby : Nat.ble bytes 1000 = true) (hd : Nat.blt d n.size = true)
    (k : ∀ g c w', Ext w w' → Own τ e w.heap.size No w' (some ⟨g, 0, none⟩) c [] → WL P n ops Q K os ((d, .slice (some ⟨g, 0, none⟩) m c) :: l) w') :
    WL P n ops Q K (⟨some d, .call ⟨.builtin .append, #[s, x], #[t, ti]⟩, ty, pos, jI, none⟩ :: os) l w := by
  obtain ⟨g, c, w', hrun, h1, h2⟩ := Aq (P := P) (w := w) τ hT hi hI m h0 hm hby ty
  refine WL.val (v := .slice (some ⟨g, 0, none⟩) m c) (fun a _ => dY a) Y hd (R := fun w2 => w2 = w') (fun a ha => ⟨w', ?_, Y⟩) fun w2 e => by rw [e]; exact k g c w' h1 h2
  unfold execOp
  simp only [resolve, Sem.run_bind, Sem.run_pure, Result.andThen_ok, invoke, builtin, List.map_toArray, List.map_cons, List.map_nil, ha.eval hs, ha.eval hx, hrun]
end
def aaU (n : Cx) (J : Nat → List (Nat × Value) → World → Prop) (a : Act) (w : World) : Prop := ∃ m l, Has n l a ∧ J m l w
section
variable {P : Program} {n : Cx} {l : List (Nat × Value)} {w : World} {Q : Exit → Act → World → Prop}
theorem Rl {c : Code} {lb : Nat} {a : Act} {R R' : Act → World → Prop} (h : c.wpIn n.fence 0 P (Exit.jump lb R Q) a w) (hr : ∀ a w, R a w → R' a w) : c.wpIn n.fence 0 P (Exit.jump lb R' Q) a w := by
  refine wpIn_mono h ?_
  intro e a' w' hq
  cases e with
  | goto l' => exact ⟨hq.1, hr _ _ hq.2⟩
  | _ => exact hq
theorem WP.jumps {c rest : Code} {lb : Nat} (J : Nat → List (Nat × Value) → World → Prop) (hf : findLabel c lb = some (.seq .skip rest))
    (pass : ∀ m l w, J m l w → WP P n rest l w (Exit.jump lb (Again n J m) Q))
    (first : (∀ m l w, J m l w → WP P n (.seq (.label lb) rest) l w (Exit.jump lb (aaU n J) Q)) → WP P n c l w (Exit.jump lb (aaU n J) Q)) (hro : n.round = none := by rfl) : WP P n (.scope c) l w Q := by
  intro a ha
  have e : n.fence = Fence.wide := Cx.nA hro
  rw [e]
  refine wpIn_wide.2 ?_
  refine wp_scope_jumps lb (aaU n J) (fun a w => leastOf fun m => ∃ l, Has n l a ∧ J m l w) hf ?_ ?_
  · have h1 := first ?_ a ha
    · rw [e] at h1; exact wpIn_wide.1 h1
    · intro m l w hJ a ha
      refine wpIn_seq (wpIn_label ?_)
      exact Rl (pass m l w hJ a ha) fun a w ⟨m', l', _, h1, h2⟩ => ⟨m', l', h1, h2⟩
  · intro a w hJ
    obtain ⟨⟨l, h1, h2⟩, _⟩ := leastOf_spec (p := fun m => ∃ l, Has n l a ∧ J m l w) hJ
    refine wp_seq (wp_skip ?_)
    have h6 := pass _ l w h2 a h1
    rw [e] at h6
    refine wp_mono (wpIn_wide.1 h6) ?_
    intro e' a' w' hq
    cases e' with
    | goto l' =>
      refine ⟨hq.1, ?_⟩
      obtain ⟨m', l', hlt, h3, h4⟩ := hq.2
      exact ⟨⟨m', l', h3, h4⟩, Nat.lt_of_le_of_lt ((leastOf_spec (p := fun m => ∃ l, Has n l a' ∧ J m l w') ⟨m', l', h3, h4⟩).2 m' ⟨l', h3, h4⟩) hlt⟩
    | _ => exact hq
theorem aA.Kv {lb : Nat} {R : Act → World → Prop} (h : aA n Q .ret l w) : aA n (Exit.jump lb R Q) .ret l w := fun a ha => h a ha
theorem aA.Gp {lb : Nat} {R : Act → World → Prop} (h : aA n Q .normal l w) : aA n (Exit.jump lb R Q) .normal l w := fun a ha => h a ha
theorem WP.goto {i : Nat} (h : aA n Q (.goto i) l w) : WP P n (.goto i) l w Q := fun a ha => wpIn_goto (h a ha)
end
def Ty.list {α : Type} (τ : Ty α) : Ty (List α) where
  k := 1
  pos := by decide
  R := fun S w xs cs => ∃ A c, cs = [.slice A xs.length c] ∧ Sl τ S w A c xs
  len := fun ⟨A, c, h, _⟩ => by rw [h]; rfl
  one := fun ⟨A, c, h, _⟩ => by rw [h]; intro u hu; simp at hu; rw [hu]; rfl
  keep := fun m ⟨A, c, h, hs⟩ => ⟨A, c, h, hs.keep m⟩
  sub := fun hS ⟨A, c, h, hs⟩ => ⟨A, c, h, hs.sub hS⟩
  bd := fun ⟨A, c, h, hs⟩ => ⟨A, c, h, hs.bd⟩
def oD (A : an3) (c lo k : Nat) : Option Addr := if c = lo then A else A.map (·.add (lo * k))
theorem xC (A : an3) (c k : Nat) : oD A c 0 k = A := by
  unfold oD
  split
  · rfl
  · cases A <;> simp [Addr.add_zero']
theorem Sl.cut {α : Type} {τ : Ty α} {S : Nat → Prop} {w : World} {A : an3} {c : Nat} {xs : List α} (h : Sl τ S w A c xs) {lo hi : Nat} (h1 : lo ≤ hi) (h2 : hi ≤ xs.length) : Sl τ S w (oD A c lo τ.k) (c - lo) ((xs.take hi).drop lo) := by
  have hc := h.cap
  refine ⟨by simp only [List.length_drop, List.length_take]; omega, by have := h.max; omega, ?_, ?_⟩
  · intro hn
    unfold oD at hn
    split at hn
    · omega
    · have := h.nil (by simpa using hn); omega
  · intro i x hx
    rw [List.getElem?_drop, List.getElem?_take] at hx
    split at hx
    · rename_i hlt
      obtain ⟨hS, cs, hR, hcs⟩ := h.rows _ x hx
      have hA := h.some_ hx
      have hne : ¬ c = lo := by omega
      have ha : vV (oD A c lo τ.k) = (vV A).add (lo * τ.k) := by
        unfold oD
        rw [if_neg hne, hA]
        simp [vV]
      rw [ha, pU]
      refine ⟨hS, cs, hR, fun j u hu => ?_⟩
      rw [bJ]
      have := hcs j u hu
      rwa [show (lo + i) * τ.k + j = lo * τ.k + (i * τ.k + j) from by rw [Nat.add_mul]; omega] at this
    · cases hx
theorem Sl.Kw {α : Type} {τ : Ty α} {S : Nat → Prop} {w : World} {A : an3} {c : Nat} {xs : List α} (h : Sl τ S w A c xs) {hi : Nat} (h2 : hi ≤ xs.length) : Sl τ S w A c (xs.take hi) := by
  have := h.cut (lo := 0) (Nat.zero_le _) h2
  rwa [xC, Nat.sub_zero, List.drop_zero] at this
theorem Sl.cutFrom {α : Type} {τ : Ty α} {S : Nat → Prop} {w : World} {A : an3} {c : Nat} {xs : List α} (h : Sl τ S w A c xs) {lo : Nat} (h1 : lo ≤ xs.length) : Sl τ S w (oD A c lo τ.k) (c - lo) (xs.drop lo) := by
  have := h.cut h1 (Nat.le_refl _)
  rwa [List.take_length] at this
theorem Own.take {α : Type} {τ : Ty α} {e : TypeId} {lo : Nat} {S : Nat → Prop} {w : World} {A : an3} {c : Nat} {xs : List α} (h : Own τ e lo S w A c xs) {hi : Nat} (h2 : hi ≤ xs.length) : Own τ e lo S w A c (xs.take hi) := by
  obtain ⟨css, hl, hR, hown⟩ := h
  have hk := CW hl hR
  have hlen : (xs.take hi).length = hi := by simp only [List.length_take]; omega
  have Zq : ∀ (cs : List (List Value)) (m : Nat), (∀ c ∈ cs, c.length = τ.k) → (cs.take m).flatten = cs.flatten.take (m * τ.k) := by
    intro cs
    induction cs with
    | nil => intro m _; simp
    | cons c0 cs ih =>
      intro m hm
      cases m with
      | zero => simp
      | succ m =>
        have h0 := hm c0 (by simp)
        have e1 : c0.take ((m + 1) * τ.k) = c0 := List.take_of_length_le (by rw [h0, Nat.add_mul]; omega)
        have e2 : (m + 1) * τ.k - τ.k = m * τ.k := by rw [Nat.add_mul]; omega
        rw [List.take_succ_cons, List.flatten_cons, List.flatten_cons, ih m (fun c hc => hm c (by simp [hc])), List.take_append, e1, h0, e2]
  refine ⟨css.take hi, by simp only [List.length_take, hl], fun i x hx => ?_, ?_⟩
  · rw [List.getElem?_take] at hx
    split at hx
    · rename_i hlt
      obtain ⟨cs, h3, h4⟩ := hR i x hx
      exact ⟨cs, by rw [List.getElem?_take, if_pos hlt]; exact h3, h4⟩
    · cases hx
  · rw [hlen]
    refine ⟨?_, ?_⟩
    · rw [Zq css hi hk, List.length_take, hown.1]
      exact Nat.min_eq_left (Nat.mul_le_mul_right _ h2)
    · rcases hown.2 with ⟨hv, hn⟩ | ⟨g, cap, cur, hv, hg, hh, hnc, hcm, hcs, ht⟩
      · left
        injection hv with hA hn' hc
        subst hA hc
        have : hi = 0 := by omega
        subst this
        exact ⟨Y, Y⟩
      · right
        injection hv with hA hn' hc
        subst hA hc
        refine ⟨g, c, cur, Y, hg, hh, by omega, hcm, hcs, ?_⟩
        rw [Zq css hi hk, ← ht, List.take_take, Nat.min_eq_left (Nat.mul_le_mul_right _ h2)]
section
variable {P : Program} {n : Cx} {l : List (Nat × Value)} {w : World} {t e : TypeId} {x : Operand}
theorem Ev.Kw {α : Type} {k : Nat} {A : an3} {c hi : Nat} {xs : List α} {kh : IntKind} {zh : Int} {yh : Operand} (hu : P.underlying t = some (.slice e)) (hs : Size P e k) (hx : gF l x = some (.slice A xs.length c)) (hh : gF l yh = some (.int kh zh))
    (h2 : zh = (hi : Int)) (h4 : hi ≤ xs.length) (h5 : xs.length ≤ c) : Ev P n l w (.slice t x none (some yh) none) (.slice A (xs.take hi).length c) := fun o a w' ho ha _ => by
  have hlen : (xs.take hi).length = hi := by simp only [List.length_take]; omega
  have hcz := xC A c k
  unfold oD at hcz
  unfold execOp; rw [ho]
  have h6 : (Instr.sliceAt t (.slice A xs.length c) none (some (.int kh zh)) none).run P w' = .ok (.slice A hi c) w' := by
    rw [run_sliceAt_slice w' t _ _ _ _ (l5 hu), run_slice_h w' t A xs.length c (l5 hu) kh zh (by omega) (by omega), uo hu, hs w', h2]
    simp only [Result.andThen_ok, sliced, Int.toNat_natCast, Nat.sub_zero]
    rw [hcz]
  simp [ha.eval hx, ha.eval hh, h6, hlen]
theorem Ev.PY {k : Nat} {A : an3} {m c : Nat} {kh : IntKind} {zh : Int} {yh : Operand} (hu : P.underlying t = some (.slice e)) (hs : Size P e k) (hx : gF l x = some (.slice A m c)) (hh : gF l yh = some (.int kh zh)) (h2 : zh = 0) : Ev P n l w (.slice t x none (some yh) none) (.slice A 0 c) := fun o a w' ho ha _ => by
  have hcz := xC A c k
  unfold oD at hcz
  unfold execOp; rw [ho]
  have h6 : (Instr.sliceAt t (.slice A m c) none (some (.int kh zh)) none).run P w' = .ok (.slice A 0 c) w' := by
    rw [run_sliceAt_slice w' t _ _ _ _ (l5 hu), run_slice_h w' t A m c (l5 hu) kh zh (by omega) (by omega), uo hu, hs w', h2]
    simp only [Result.andThen_ok, sliced, Int.toNat_zero, Nat.sub_zero]
    rw [hcz]
  simp [ha.eval hx, ha.eval hh, h6]
theorem Ev.cutFrom {α : Type} {k : Nat} {A : an3} {c lo : Nat} {xs : List α} {kl : IntKind} {zl : Int} {yl : Operand} (hu : P.underlying t = some (.slice e)) (hs : Size P e k) (hx : gF l x = some (.slice A xs.length c)) (hl : gF l yl = some (.int kl zl))
    (h1 : zl = (lo : Int)) (h3 : lo ≤ xs.length) (h5 : xs.length ≤ c) : Ev P n l w (.slice t x (some yl) none none) (.slice (oD A c lo k) (xs.drop lo).length (c - lo)) := fun o a w' ho ha _ => by
  have hlen : (xs.drop lo).length = xs.length - lo := by simp only [List.length_drop]
  unfold execOp; rw [ho]
  have h6 : (Instr.sliceAt t (.slice A xs.length c) (some (.int kl zl)) none none).run P w' = .ok (.slice (oD A c lo k) (xs.length - lo) (c - lo)) w' := by
    rw [run_sliceAt_slice w' t _ _ _ _ (l5 hu), run_slice_l w' t A xs.length c (l5 hu) kl zl (by omega) (by omega), uo hu, hs w', h1]
    simp [sliced, oD]
  simp [ha.eval hx, ha.eval hl, h6, hlen]
end
theorem PZ : FloatKind.f64.nearest 0 = 0 := by decide +kernel
def fb (n : Nat) : Nat := FloatKind.f64.nearest (n : Int)
theorem II : ∀ n, n < 130 → FloatKind.f64.format.add (fb n) 4607182418800017408 = some (fb (n + 1)) := by decide +kernel
theorem CX : ∀ n, n < 130 → FloatKind.f64.format.add (fb n) 0 = some (fb n) := by decide +kernel
theorem Uc : ∀ n, n < 130 → (FloatKind.f64.decode (fb n)).toInt .zero = some (n : Int) := by decide +kernel
theorem aaV : ∀ n, n < 70 → ∀ m, m < 70 → ((FloatKind.f64.format.order (fb n) (fb m) == some .gt || FloatKind.f64.format.order (fb n) (fb m) == some .eq) = decide (m ≤ n)) := by decide +kernel
section
variable {P : Program} {n : Cx} {l : List (Nat × Value)} {w : World} {t ty : TypeId} {x y : Operand}
theorem Ev.Ym {a b c d e f : Nat} (hx : gF l x = some (.complex .f64 a b)) (hy : gF l y = some (.complex .f64 c d)) (h1 : FloatKind.f64.format.add a c = some e) (h2 : FloatKind.f64.format.add b d = some f) : Ev P n l w (.binOp .add t x y ty) (.complex .f64 e f) :=
  Ev.binop hx hy (eqGuard_at_complex ..) fun w => by
    simp [binOp, Op.complexOp, Op.Complex.arith, Op.floatArith, h1, h2]
theorem Ev.real {a b : Nat} {ts : Array TypeId} (hx : gF l x = some (.complex .f64 a b)) : Ev P n l w (.call ⟨.builtin .real, #[x], ts⟩) (.float .f64 a) := fun o ac w' ho ha _ => by
  unfold execOp; rw [ho]
  simp only [resolve, Sem.run_bind, Sem.run_pure, Result.andThen_ok, invoke, builtin, List.map_toArray, List.map_cons, List.map_nil, ha.eval hx]
  rfl
theorem Ev.imag {a b : Nat} {ts : Array TypeId} (hx : gF l x = some (.complex .f64 a b)) : Ev P n l w (.call ⟨.builtin .imag, #[x], ts⟩) (.float .f64 b) := fun o ac w' ho ha _ => by
  unfold execOp; rw [ho]
  simp only [resolve, Sem.run_bind, Sem.run_pure, Result.andThen_ok, invoke, builtin, List.map_toArray, List.map_cons, List.map_nil, ha.eval hx]
  rfl
theorem Ev.ad2 {d : TypeId} {a m : Nat} (hs : ∃ k, P.underlying t = some k) (hd : P.underlying d = some (.int .i64)) (hx : gF l x = some (.float .f64 a)) (hm : (FloatKind.f64.decode a).toInt .zero = some (m : Int)) (hb : m < 9223372036854775808) : Ev P n l w (.convert t d x) (.int .i64 (m : Int)) := fun o ac w' ho ha _ => by
  unfold execOp; rw [ho]
  obtain ⟨k, hk⟩ := hs
  have h1 : IntKind.i64.min ≤ (m : Int) ∧ (m : Int) ≤ IntKind.i64.max := by
    have e1 : IntKind.i64.min = -9223372036854775808 := by decide
    have e2 : IntKind.i64.max = 9223372036854775807 := by decide
    omega
  have h2 : (Conv.floatToInt .f64 a .i64).run P w' = .ok (.int .i64 (m : Int)) w' := by
    simp only [Conv.floatToInt, hm]
    rw [if_pos h1]
    rfl
  simp [ha.eval hx, convert, run_underlying hk, run_underlying hd, h2]
theorem Ev.ahT {d : TypeId} {k : IntKind} {z : Int} {m : Nat} (hs : ∃ k, P.underlying t = some k) (hd : P.underlying d = some (.float .f64)) (hx : gF l x = some (.int k z)) (hm : z = (m : Int)) : Ev P n l w (.convert t d x) (.float .f64 (fb m)) := fun o ac w' ho ha _ => by
  unfold execOp; rw [ho]
  obtain ⟨k, hk⟩ := hs
  simp [ha.eval hx, convert, run_underlying hk, run_underlying hd, Conv.intToFloat, hm, fb]
theorem Ev.ahU {a b : Nat} (ha : a < 70) (hb : b < 70) (hx : gF l x = some (.float .f64 (fb a))) (hy : gF l y = some (.float .f64 (fb b))) : Ev P n l w (.binOp .geq t x y ty) (.bool (decide (b ≤ a))) :=
  Ev.binop hx hy (eqGuard_at_float ..) fun w => by
    have := aaV a ha b hb
    simp [binOp, Op.floatCmp, this]
end
end Go.Proofs.YtjcklpooaaaglaaGreat
set_option linter.all false
namespace Go.Proofs.YtjcklpooaaaglaaGreat
theorem dK {α : Type} {xs : List α} {k : Nat} {x : α} (h : xs[k]? = some x) : xs.take (k + 1) = xs.take k ++ [x] := by
  rw [List.take_add_one, h]; rfl
theorem bV {α : Type} {xs : List α} {k : Nat} {x : α} (h : xs[k]? = some x) : x ∈ xs := List.mem_of_getElem? h
def idxOf {α : Type} (p : α → Bool) : List α → Int
  | [] => -1
  | x :: xs => if p x then 0 else if idxOf p xs < 0 then -1 else idxOf p xs + 1
theorem kI {α : Type} {p : α → Bool} : ∀ {xs : List α}, (∀ x ∈ xs, p x = false) → idxOf p xs = -1
  | [], _ => rfl
  | x :: xs, h => by
    have h1 := h x (by simp)
    have h2 := kI (p := p) (xs := xs) (fun y hy => h y (by simp [hy]))
    simp [idxOf, h1, h2]
theorem vY {α : Type} {p : α → Bool} : ∀ (xs : List α), -1 ≤ idxOf p xs
  | [] => by simp [idxOf]
  | x :: xs => by
    have := vY (p := p) xs
    unfold idxOf
    split
    · omega
    · split <;> omega
theorem jU {α : Type} {p : α → Bool} : ∀ {xs : List α} {k : Nat} {x : α}, (∀ y ∈ xs.take k, p y = false) → xs[k]? = some x → p x = true → idxOf p xs = (k : Int)
  | [], k, x, _, h, _ => by simp at h
  | y :: xs, 0, x, _, h, hp => by
    simp at h; subst h
    simp [idxOf, hp]
  | y :: xs, k + 1, x, h0, h, hp => by
    have h1 := h0 y (by simp)
    have h2 := jU (p := p) (xs := xs) (k := k) (x := x) (fun z hz => h0 z (by simp [hz])) (by simpa using h) hp
    simp only [idxOf, h1, h2]
    simp
    omega
theorem vZ {α : Type} {p : α → Bool} : ∀ (xs : List α), idxOf p xs < xs.length
  | [] => by simp [idxOf]
  | x :: xs => by
    have := vZ (p := p) xs
    unfold idxOf
    simp only [List.length_cons]
    split
    · omega
    · split <;> omega
theorem oK {α : Type} (p : α → Bool) (xs : List α) : (idxOf p xs = -1 ∧ ∀ x ∈ xs, p x = false) ∨ ∃ (k : Nat) (x : α), idxOf p xs = (k : Int) ∧ xs[k]? = some x ∧ p x = true ∧ ∀ y ∈ xs.take k, p y = false := by
  induction xs with
  | nil => left; exact ⟨rfl, fun x hx => by simp at hx⟩
  | cons y xs ih =>
    by_cases hp : p y = true
    · right; exact ⟨0, y, by simp [idxOf, hp], rfl, hp, fun z hz => by simp at hz⟩
    · have hp' : p y = false := by simpa using hp
      rcases ih with ⟨h1, h2⟩ | ⟨k, x, h1, h2, h3, h4⟩
      · left
        refine ⟨by simp [idxOf, hp', h1], fun x hx => ?_⟩
        rcases List.mem_cons.1 hx with rfl | hx
        · exact hp'
        · exact h2 x hx
      · right
        refine ⟨k + 1, x, by simp [idxOf, hp', h1]; omega, by simpa using h2, h3, fun z hz => ?_⟩
        rcases List.mem_cons.1 (by simpa using hz) with rfl | hz
        · exact hp'
        · exact h4 z hz
theorem gP {α : Type} {q : α → Prop} {xs : List α} {k : Nat} {x : α} (h : ∀ y ∈ xs.take k, q y) (hx : xs[k]? = some x) (hq : q x) : ∀ y ∈ xs.take (k + 1), q y := by
  rw [dK hx]
  intro y hy
  rcases List.mem_append.1 hy with h1 | h1
  · exact h y h1
  · simp at h1; rw [h1]; exact hq
theorem jf {α : Type} {q : α → Prop} {xs : List α} {k : Nat} (h : ∀ y ∈ xs.take k, q y) (hk : xs.length ≤ k) : ∀ y ∈ xs, q y := by
  rw [List.take_of_length_le hk] at h; exact h
def wh {α : Type} (xss : List (List α)) (k : Nat) : Nat := ((xss.take k).flatten).length
theorem uq {α : Type} {xss : List (List α)} {k : Nat} {s : List α} (h : xss[k]? = some s) : wh xss (k + 1) = wh xss k + s.length := by
  unfold wh; rw [dK h]; simp
theorem wm {α : Type} (xss : List (List α)) (k : Nat) : wh xss k ≤ xss.flatten.length := by
  unfold wh
  conv => rhs; rw [← List.take_append_drop k xss]
  rw [List.flatten_append, List.length_append]; omega
theorem IJ {α : Type} {xss : List (List α)} {k : Nat} {s : List α} (h : xss[k]? = some s) : (xss.take k).flatten ++ s = (xss.take (k + 1)).flatten := by
  rw [dK h]; simp
def ahV {α : Type} (q : Nat → α → Bool) (xs : List α) : Bool := (List.range xs.length).all fun i => match xs[i]? with | some x => q i x | none => true
def low {α : Type} (g : α → Int) (s : List α) : Nat := s.countP fun x => decide (g x < 0)
def hits {α : Type} (g : α → Int) (s : List α) : Bool := match s[low g s]? with | some x => decide (g x = 0) | none => false
def aaW {α : Type} (g : α → Int) (s : List α) : Prop := ∀ (i j : Nat) (x y : α), i ≤ j → s[i]? = some x → s[j]? = some y → g y < 0 → g x < 0
theorem Ud {α : Type} (g : α → Int) (s : List α) : low g s ≤ s.length := List.countP_le_length
theorem wo {α : Type} {g : α → Int} {s : List α} {i : Nat} (hi : i ≤ s.length) (h1 : ∀ (a : Nat) (x : α), a < i → s[a]? = some x → g x < 0) (h2 : ∀ (a : Nat) (x : α), i ≤ a → s[a]? = some x → ¬ g x < 0) : low g s = i := by
  have e : low g s = (s.take i).countP (fun x => decide (g x < 0)) + (s.drop i).countP (fun x => decide (g x < 0)) := by
    unfold low; rw [← List.countP_append, List.take_append_drop]
  have e1 : (s.take i).countP (fun x => decide (g x < 0)) = (s.take i).length := by
    rw [List.countP_eq_length]
    intro x hx
    obtain ⟨a, ha, rfl⟩ := List.getElem_of_mem hx
    have hlt : a < i := by simp only [List.length_take] at ha; omega
    exact decide_eq_true (h1 a _ hlt (by rw [List.getElem_take]; exact List.getElem?_eq_getElem _))
  have e2 : (s.drop i).countP (fun x => decide (g x < 0)) = 0 := by
    rw [List.countP_eq_zero]
    intro x hx
    obtain ⟨a, ha, rfl⟩ := List.getElem_of_mem hx
    have hb : i + a < s.length := by simp only [List.length_drop] at ha; omega
    have := h2 (i + a) _ (by omega) (List.getElem?_eq_getElem hb)
    rw [List.getElem_drop]
    simpa using this
  rw [e, e1, e2, List.length_take]; omega
def dP (x y : Int) : Int := if x < y then -1 else if y < x then 1 else 0
theorem qB {x y : Int} : dP x y < 0 ↔ x < y := by
  unfold dP; split
  · omega
  · split <;> omega
theorem ql {x y : Int} : dP x y = 0 ↔ x = y := by
  unfold dP; split
  · omega
  · split <;> omega
def Up {α : Type} (key : α → Int) (s : List α) : Prop := s.Pairwise fun x y => key x < key y
theorem Up.get {α : Type} {key : α → Int} {s : List α} (h : Up key s) {i j : Nat} {x y : α} (hij : i < j) (hx : s[i]? = some x) (hy : s[j]? = some y) : key x < key y := by
  have hi := aC hx
  have hj := aC hy
  have := (List.pairwise_iff_getElem.1 h) i j hi hj hij
  rw [(List.getElem?_eq_some_iff.1 hx).2, (List.getElem?_eq_some_iff.1 hy).2] at this
  exact this
theorem Up.mono {α : Type} {key : α → Int} {s : List α} (h : Up key s) (n : Int) : aaW (fun y => dP (key y) n) s := by
  intro i j x y hij hx hy hlt
  simp only [qB] at hlt ⊢
  rcases Nat.lt_or_ge i j with h1 | h1
  · have := h.get h1 hx hy; omega
  · have : i = j := by omega
    subst this; rw [hx] at hy; cases hy; exact hlt
theorem wu {α : Type} {key : α → Int} {s : List α} (h : Up key s) (n : Int) : hits (fun y => dP (key y) n) s = true ↔ ∃ x ∈ s, key x = n := by
  have hl : ∀ (i : Nat) (x : α), s[i]? = some x → key x = n → low (fun y => dP (key y) n) s = i := by
    intro i x hx hk
    refine wo (by have := aC hx; omega) (fun a y ha hy => ?_) (fun a y ha hy => ?_)
    · rw [qB]; have := h.get ha hy hx; omega
    · rw [qB]
      rcases Nat.lt_or_ge i a with h1 | h1
      · have := h.get h1 hx hy; omega
      · have : a = i := by omega
        subst this; rw [hx] at hy; cases hy; omega
  constructor
  · intro hh
    unfold hits at hh
    split at hh
    · rename_i x hx
      have := of_decide_eq_true hh
      exact ⟨x, bV hx, ql.1 this⟩
    · cases hh
  · rintro ⟨x, hx, hk⟩
    obtain ⟨i, hi, rfl⟩ := List.getElem_of_mem hx
    have h1 := hl i _ (List.getElem?_eq_getElem hi) hk
    unfold hits
    rw [h1, List.getElem?_eq_getElem hi]
    exact decide_eq_true (ql.2 hk)
theorem pV {α : Type} {key : α → Int} {s : List α} {n : Int} (h : hits (fun y => dP (key y) n) s = true) : ∃ x, s[low (fun y => dP (key y) n) s]? = some x ∧ key x = n := by
  unfold hits at h
  split at h
  · rename_i x hx; exact ⟨x, hx, ql.1 (of_decide_eq_true h)⟩
  · cases h
end Go.Proofs.YtjcklpooaaaglaaGreat
set_option linter.all false
namespace Go.Proofs.YtjcklpooaaaglaaGreat
open Go.RowKit
abbrev Cells (k : Nat) := { u : List Value // u.length = k ∧ ∀ v ∈ u, v.oneCell' = true }
def oF (k : Nat) (pos : 0 < k) : Ty (Cells k) := Ty.flat k (fun u => u.1) pos (fun u => u.2.1) (fun u => u.2.2)
def fq {k : Nat} (us : List (Cells k)) : List Value := (us.map (·.1)).flatten
theorem kJ {k : Nat} (us vs : List (Cells k)) : fq (us ++ vs) = fq us ++ fq vs := by simp [fq]
theorem fG {k : Nat} : ∀ (us : List (Cells k)), (fq us).length = us.length * k
  | [] => by simp [fq]
  | u :: us => by
    have := fG us
    simp only [fq, List.map_cons, List.flatten_cons, List.length_append, List.length_cons] at this ⊢
    rw [this, u.2.1, Nat.add_mul]; omega
theorem xD {k : Nat} {us : List (Cells k)} : ∀ v ∈ fq us, v.oneCell' = true := by
  intro v hv
  simp only [fq, List.mem_flatten, List.mem_map] at hv
  obtain ⟨_, ⟨u, _, rfl⟩, h⟩ := hv
  exact u.2.2 v h
theorem uw {k : Nat} : ∀ (us : List (Cells k)) (m : Nat), (fq us).take (m * k) = fq (us.take m)
  | [], m => by simp [fq]
  | u :: us, 0 => by simp [fq]
  | u :: us, m + 1 => by
    have ih := uw us m
    have h0 := u.2.1
    have e1 : u.1.take ((m + 1) * k) = u.1 := List.take_of_length_le (by rw [h0, Nat.add_mul]; omega)
    have e2 : (m + 1) * k - k = m * k := by rw [Nat.add_mul]; omega
    simp only [fq, List.map_cons, List.flatten_cons, List.take_succ_cons] at ih ⊢
    rw [List.take_append, e1, h0, e2, ih]
theorem yG {k : Nat} : ∀ (us : List (Cells k)) (m : Nat), (fq us).drop (m * k) = fq (us.drop m)
  | [], m => by simp [fq]
  | u :: us, 0 => by simp [fq]
  | u :: us, m + 1 => by
    have ih := yG us m
    have h0 := u.2.1
    have e1 : u.1.drop ((m + 1) * k) = [] := List.drop_of_length_le (by rw [h0, Nat.add_mul]; omega)
    have e2 : (m + 1) * k - k = m * k := by rw [Nat.add_mul]; omega
    simp only [fq, List.map_cons, List.flatten_cons, List.drop_succ_cons] at ih ⊢
    rw [List.drop_append, e1, h0, e2, ih, List.nil_append]
section
variable {α : Type} {τ : Ty α} {e : TypeId} {lo : Nat} {S S2 : Nat → Prop} {w w' : World} {A B : an3} {c : Nat} {xs ys : List α} {us vs : List (Cells τ.k)}
theorem ru {k : Nat} {pos : 0 < k} {us : List (Cells k)} : Own (oF k pos) e lo S w A c us ↔ w.ownsRow lo e k (.slice A us.length c) us.length (fq us) := by
  constructor
  · rintro ⟨css, hl, hR, hown⟩
    have : css = us.map (·.1) := by
      apply List.ext_getElem?
      intro i
      rw [List.getElem?_map]
      cases hu : us[i]? with
      | none => have := List.getElem?_eq_none_iff.1 hu; simp; omega
      | some u =>
        obtain ⟨cs, h1, h2⟩ := hR i u hu
        have h2 : cs = u.1 := h2
        rw [h1, h2]; rfl
    subst this
    exact hown
  · intro h
    refine ⟨us.map (·.1), by simp, fun i u hu => ⟨u.1, by rw [List.getElem?_map, hu]; rfl, rfl⟩, ?_⟩
    exact h
theorem zf {k : Nat} : ∀ (css : List (List Value)), (∀ cs ∈ css, cs.length = k ∧ ∀ v ∈ cs, v.oneCell' = true) → ∃ us : List (Cells k), us.map (·.1) = css
  | [], _ => ⟨[], rfl⟩
  | cs :: css, h => by
    obtain ⟨us, hu⟩ := zf css (fun c hc => h c (by simp [hc]))
    exact ⟨⟨cs, h cs (by simp)⟩ :: us, by simp [hu]⟩
def Rel (τ : Ty α) (S : Nat → Prop) (w : World) (xs : List α) (us : List (Cells τ.k)) : Prop := us.length = xs.length ∧ ∀ (i : Nat) (x : α) (u : Cells τ.k), xs[i]? = some x → us[i]? = some u → τ.R S w x u.1
theorem aaX {css : List (List Value)} (hl : css.length = xs.length) (hR : ∀ (i : Nat) (x : α), xs[i]? = some x → ∃ cs, css[i]? = some cs ∧ τ.R S w x cs) : ∃ us : List (Cells τ.k), us.map (·.1) = css ∧ Rel τ S w xs us := by
  have hk : ∀ cs ∈ css, cs.length = τ.k ∧ ∀ v ∈ cs, v.oneCell' = true := by
    intro cs hcs
    obtain ⟨i, hi, rfl⟩ := List.getElem_of_mem hcs
    obtain ⟨cs', h3, h4⟩ := hR i (xs[i]'(by omega)) (List.getElem?_eq_getElem _)
    rw [List.getElem?_eq_getElem hi] at h3
    cases h3
    exact ⟨τ.len h4, τ.one h4⟩
  obtain ⟨us, hus⟩ := zf css hk
  refine ⟨us, hus, by rw [← hl, ← hus, List.length_map], ?_⟩
  intro i x u hx hu
  obtain ⟨cs, h1, h2⟩ := hR i x hx
  rw [← hus, List.getElem?_map, hu] at h1
  have h1 : u.1 = cs := by simpa using h1
  rw [h1]
  exact h2
theorem Own.raw (h : Own τ e lo S w A c xs) : ∃ us : List (Cells τ.k), Own (oF τ.k τ.pos) e lo No w A c us ∧ Rel τ S w xs us := by
  obtain ⟨css, hl, hR, hown⟩ := h
  obtain ⟨us, h1, h2⟩ := aaX hl hR
  refine ⟨us, ru.2 ?_, h2⟩
  rw [h2.1, fq, h1]
  exact hown
theorem Own.ofRaw {S' : Nat → Prop} (h : Own (oF τ.k τ.pos) e lo S' w A c us) (hr : Rel τ S w xs us) : Own τ e lo S w A c xs := by
  have h1 := ru.1 h
  rw [hr.1] at h1
  refine ⟨us.map (·.1), by simp [hr.1], fun i x hx => ?_, by exact h1⟩
  obtain ⟨u, hu⟩ := get_some (xs := us) (i := i) (by rw [hr.1]; exact aC hx)
  exact ⟨u.1, by rw [List.getElem?_map, hu]; rfl, hr.2 i x u hx hu⟩
theorem Rel.append (h : Rel τ S w xs us) (h' : Rel τ S w ys vs) : Rel τ S w (xs ++ ys) (us ++ vs) := by
  refine ⟨by simp [h.1, h'.1], fun i x u hx hu => ?_⟩
  by_cases hi : i < xs.length
  · rw [List.getElem?_append_left hi] at hx
    rw [List.getElem?_append_left (by rw [h.1]; exact hi)] at hu
    exact h.2 i x u hx hu
  · rw [List.getElem?_append_right (by omega)] at hx
    rw [List.getElem?_append_right (by rw [h.1]; omega), h.1] at hu
    exact h'.2 _ x u hx hu
theorem Rel.take (h : Rel τ S w xs us) (m : Nat) : Rel τ S w (xs.take m) (us.take m) := by
  refine ⟨by simp [h.1], fun i x u hx hu => ?_⟩
  rw [List.getElem?_take] at hx hu
  split at hx
  · rename_i hi; rw [if_pos hi] at hu; exact h.2 i x u hx hu
  · cases hx
theorem Rel.drop (h : Rel τ S w xs us) (m : Nat) : Rel τ S w (xs.drop m) (us.drop m) := by
  refine ⟨by simp [h.1], fun i x u hx hu => ?_⟩
  rw [List.getElem?_drop] at hx hu
  exact h.2 _ x u hx hu
theorem Rel.sub {S' : Nat → Prop} (h : Rel τ S w xs us) (hs : ∀ b, S b → S' b) : Rel τ S' w xs us := ⟨h.1, fun i x u hx hu => τ.sub hs (h.2 i x u hx hu)⟩
theorem Rel.grown (h : Rel τ S w xs us) (hg : yw w w' (blk A)) (hS : ∀ g, blk A = some g → ¬ S g) : Rel τ S w' xs us := by
  refine ⟨h.1, fun i y u hx hu => ?_⟩
  have := h.2 i y u hx hu
  cases hA : blk A with
  | none => rw [hA] at hg; exact τ.ext (Ext.kQ hg (fun k hk => by cases hk)) this
  | some g => rw [hA] at hg; exact τ.mod (Mod.kQ hg (fun k hk => by cases hk; rfl)) (hS g hA) this
end
section
variable {P : Program} {w : World}
theorem Ar {dT sT ty elem : TypeId} {k g o dl dc : Nat} {a : Addr} {sl sc : Nat} {cur cs : List Value} (hu : P.underlying dT = some (.slice elem)) (hs : Size P elem k) {e : TypeId} (hg : Bx w g e cur) (hn : cs.length = Nat.min sl dl * k)
    (hsrc : ∀ j v, cs[j]? = some v → w.cell? (a.add j) = some v) (hfit : o + cs.length ≤ cur.length) (h1 : ∀ v ∈ cs, v.oneCell' = true) :
    (Builtin.copy_ #[dT, sT] ty #[.slice (some ⟨g, o, none⟩) dl dc, .slice (some a) sl sc]).run P w = .ok (goInt (Nat.min sl dl)) (w.setRow g (cur.take o ++ cs ++ cur.drop (o + cs.length)).toArray) := by
  have hl := run_loadCells_list (P := P) w a cs hsrc
  have hst := run_storeCells_at P g o e cs 0 cur.toArray w hg (by simpa using hfit) h1
  simp only [Nat.add_zero] at hst
  simp [Builtin.copy_, run_underlying hu, Builtin.lenOf, Builtin.firstCells, hs w, ← hn, hl, hst]
theorem Rn {dT sT ty elem : TypeId} {k dl dc sl sc : Nat} {A B : an3} (hu : P.underlying dT = some (.slice elem)) (hs : Size P elem k) (hn : Nat.min sl dl = 0) :
    (Builtin.copy_ #[dT, sT] ty #[.slice A dl dc, .slice B sl sc]).run P w = .ok (goInt 0) w := by
  cases A <;> cases B <;> simp [Builtin.copy_, run_underlying hu, Builtin.lenOf, Builtin.firstCells, hs w, hn, loadCells, loadCellsFrom, storeCells]
theorem lM (w : World) (g : Nat) (cs : Array Value) : yw w (w.setRow g cs) (some g) :=
  ⟨rfl, rfl, rfl, by simp [World.setRow], fun k _ hk => setRow_other w g k cs (fun e => hk (by rw [e])), Nat.le_refl _⟩
end
def over {k : Nat} (us : List (Cells k)) (lo : Nat) (vs : List (Cells k)) : List (Cells k) := us.take lo ++ vs.take (us.length - lo) ++ us.drop (lo + vs.length)
theorem wz {k : Nat} {us vs : List (Cells k)} {lo : Nat} (h : lo ≤ us.length) : (over us lo vs).length = us.length := by
  simp only [over, List.length_append, List.length_take, List.length_drop]; omega
theorem NW (a b : Nat) : Nat.min a b = if a ≤ b then a else b := Nat.min_def
theorem wB {β : Type} {L cs : List β} {p N : Nat} (h1 : p + cs.length ≤ N) (h2 : N ≤ L.length) : (L.take p ++ cs ++ L.drop (p + cs.length)).take N = L.take p ++ cs ++ (L.take N).drop (p + cs.length) := by
  have hp : (L.take p).length = p := by simp only [List.length_take]; omega
  have a1 : (L.take p).take N = L.take p := List.take_of_length_le (by omega)
  have a2 : cs.take (N - p) = cs := List.take_of_length_le (by omega)
  rw [List.take_append, List.take_append, hp, a1, a2, List.drop_take, List.length_append, hp]
theorem lN {β : Type} {L cs : List β} {p : Nat} (h1 : p + cs.length ≤ L.length) : (L.take p ++ cs ++ L.drop (p + cs.length)).length = L.length := by
  simp only [List.length_append, List.length_take, List.length_drop]; omega
theorem Sl.Au {k : Nat} {pos : 0 < k} {S : Nat → Prop} {w : World} {B : an3} {d : Nat} {vs : List (Cells k)} (h : Sl (oF k pos) S w B d vs) : ∀ j v, (fq vs)[j]? = some v → w.cell? ((vV B).add j) = some v := by
  obtain ⟨css, hl, hR, _, _, hc⟩ := h.cells
  have : css = vs.map (·.1) := by
    apply List.ext_getElem?
    intro i
    rw [List.getElem?_map]
    cases hu : vs[i]? with
    | none => have := List.getElem?_eq_none_iff.1 hu; simp; omega
    | some u =>
      obtain ⟨cs, h1, h2⟩ := hR i u hu
      have h2 : cs = u.1 := h2
      rw [h1, h2]; rfl
  subst this
  exact hc
theorem Own.open_ {k : Nat} {pos : 0 < k} {e : TypeId} {lo : Nat} {S : Nat → Prop} {w : World} {A : an3} {c : Nat} {us : List (Cells k)} (h : Own (oF k pos) e lo S w A c us) (hc : 0 < c) :
    ∃ g cur, A = some ⟨g, 0, none⟩ ∧ lo ≤ g ∧ Bx w g e cur ∧ us.length ≤ c ∧ c ≤ maxLen ∧ cur.length = c * k ∧ cur.take (us.length * k) = fq us := by
  have h1 := ru.1 h
  rcases h1.2 with ⟨hv, hn⟩ | ⟨g, cap, cur, hv, hg, hh, hnc, hcm, hcs, ht⟩
  · injection hv with hA hn' hc'; omega
  · injection hv with hA hn' hc'
    subst hA hc'
    exact ⟨g, cur.toList, Y, hg, hh, hnc, hcm, by simpa using hcs, ht⟩
theorem Own.Ky {k : Nat} {pos : 0 < k} {e : TypeId} {lo : Nat} {S : Nat → Prop} {w : World} {g c : Nat} {us : List (Cells k)} {cur : List Value} (hg : lo ≤ g) (hb : Bx w g e cur) (hnc : us.length ≤ c) (hcm : c ≤ maxLen) (hcs : cur.length = c * k) (ht : cur.take (us.length * k) = fq us) : Own (oF k pos) e lo S w (some ⟨g, 0, none⟩) c us :=
  ru.2 ⟨fG us, .inr ⟨g, c, cur.toArray, rfl, hg, hb, hnc, hcm, by simpa using hcs, by simpa using ht⟩⟩
theorem sV {g c lo k : Nat} (h : c ≠ lo) : oD (some ⟨g, 0, none⟩) c lo k = some ⟨g, lo * k, none⟩ := by
  unfold oD; rw [if_neg h]; simp [Addr.add_lit]
section
variable {P : Program} {n : Cx} {l : List (Nat × Value)} {w : World} {Q : Exit → Act → World → Prop} {K : Act → World → Prop} {ops : Array Oper} {os : List Oper} {ty : TypeId} {pos : String} {jI : Array Edge} {d : Nat}
theorem Kz {k : Nat} {kp : 0 < k} {dT sT ty e : TypeId} {Ro lo c d2 : Nat} {A B : an3} {us vs : List (Cells k)} {S S2 : Nat → Prop} (hu : P.underlying dT = some (.slice e)) (hs : Size P e k)
    (ho : Own (oF k kp) e Ro S w A c us) (hv : Sl (oF k kp) S2 w B d2 vs) (hlo : lo ≤ us.length) :
    ∃ w', (Builtin.copy_ #[dT, sT] ty #[.slice (oD A c lo k) (us.length - lo) (c - lo), .slice B vs.length d2]).run P w = .ok (goInt (Nat.min vs.length (us.length - lo))) w' ∧ Own (oF k kp) e Ro S w' A c (over us lo vs) ∧ yw w w' (blk A) ∧ w'.heap.size = w.heap.size := by
  by_cases h0 : Nat.min vs.length (us.length - lo) = 0
  · refine ⟨w, by rw [Rn hu hs h0, h0]; rfl, ?_, ⟨rfl, rfl, rfl, Nat.le_refl _, fun _ _ _ => rfl, Nat.le_refl _⟩, rfl⟩
    have : over us lo vs = us := by
      unfold over
      by_cases h1 : vs.length = 0
      · have : vs = [] := List.eq_nil_of_length_eq_zero h1
        subst this; simp
      · have h2 : lo = us.length := by rw [NW] at h0; split at h0 <;> omega
        subst h2; simp
    rw [this]; exact ho
  · have hm : 0 < us.length - lo ∧ 0 < vs.length := by constructor <;> (rw [NW] at h0; split at h0 <;> omega)
    have hc : us.length ≤ c := (ho.sl (S' := Any) (fun _ _ => trivial) (fun _ _ => trivial)).cap
    obtain ⟨g, cur, rfl, hg, hb, hnc, hcm, hcl, ht⟩ := ho.open_ (by omega)
    have hB : B = some (vV B) := hv.some_ (i := 0) (x := vs[0]'(by omega)) (List.getElem?_eq_getElem _)
    have hmin : Nat.min vs.length (us.length - lo) = (vs.take (us.length - lo)).length := by rw [List.length_take]; exact Nat.min_comm _ _
    have NY : (fq (vs.take (us.length - lo))).length = Nat.min vs.length (us.length - lo) * k := by rw [fG, hmin]
    have hle : (lo + Nat.min vs.length (us.length - lo)) ≤ us.length := by rw [NW]; split <;> omega
    have ahX : lo * k + (fq (vs.take (us.length - lo))).length ≤ us.length * k := by rw [NY, ← Nat.add_mul]; exact Nat.mul_le_mul_right _ hle
    have hnk : us.length * k ≤ cur.length := by rw [hcl]; exact Nat.mul_le_mul_right _ hnc
    rw [sV (by omega), hB]
    refine ⟨_, Ar hu hs hb NY (fun j v hj => hv.Au j v ?_) (by omega) xD, ?_, lM w g _, by simp [World.setRow]⟩
    · rw [← uw, List.getElem?_take] at hj
      split at hj
      · exact hj
      · cases hj
    · refine Own.Ky hg (setRow_heap w g _ _ e _ hb) (by rw [wz hlo]; exact hnc) hcm (by rw [lN (by omega)]; exact hcl) ?_
      rw [wz hlo, wB ahX hnk, ht]
      have e1 : cur.take (lo * k) = fq (us.take lo) := by
        rw [← uw, ← ht, List.take_take, Nat.min_eq_left (Nat.mul_le_mul_right _ hlo)]
      have e2 : (fq us).drop (lo * k + (fq (vs.take (us.length - lo))).length) = fq (us.drop (lo + vs.length)) := by
        rw [NY, ← Nat.add_mul, yG]
        by_cases h3 : vs.length ≤ us.length - lo
        · rw [NW, if_pos h3]
        · have h4 : us.drop (lo + (us.length - lo)) = [] := List.drop_of_length_le (by omega)
          have h5 : us.drop (lo + vs.length) = [] := List.drop_of_length_le (by omega)
          rw [NW, if_neg h3, h4, h5]
      rw [e1, e2, over, kJ, kJ]
theorem WL.P5 {k : Nat} {kp : 0 < k} {dT sT e : TypeId} {Ro lo c d2 : Nat} {A B : an3} {us vs : List (Cells k)} {S S2 : Nat → Prop} {x y : Operand} (hx : gF l x = some (.slice (oD A c lo k) (us.length - lo) (c - lo))) (hy : gF l y = some (.slice B vs.length d2))
    (hu : P.underlying dT = some (.slice e)) (hs : Size P e k) (ho : Own (oF k kp) e Ro S w A c us) (hv : Sl (oF k kp) S2 w B d2 vs) (hlo : lo ≤ us.length) (hd : Nat.blt d n.size = true)
    (kk : ∀ w' v, Own (oF k kp) e Ro S w' A c (over us lo vs) → yw w w' (blk A) → w'.heap.size = w.heap.size → WL P n ops Q K os ((d, v) :: l) w') : WL P n ops Q K (⟨some d, .call ⟨.builtin .copy, #[x, y], #[dT, sT]⟩, ty, pos, jI, none⟩ :: os) l w := by
  obtain ⟨w', hrun, h1, h2, h3⟩ := Kz (P := P) (sT := sT) (ty := ty) hu hs ho hv hlo
  refine WL.val (v := goInt (Nat.min vs.length (us.length - lo))) (fun a _ => dY a) Y hd (R := fun w2 => w2 = w') (fun a ha => ⟨w', ?_, Y⟩) fun w2 e => by rw [e]; exact kk w' _ h1 h2 h3
  unfold execOp
  simp only [resolve, Sem.run_bind, Sem.run_pure, Result.andThen_ok, invoke, builtin, List.map_toArray, List.map_cons, List.map_nil, ha.eval hx, ha.eval hy, hrun]
def Gap {k : Nat} (e : TypeId) (Ro : Nat) (w : World) (A : an3) (c : Nat) (us : List (Cells k)) (i m : Nat) : Prop :=
  ∃ g cur, A = some ⟨g, 0, none⟩ ∧ Ro ≤ g ∧ Bx w g e cur ∧ us.length + m ≤ c ∧ c ≤ maxLen ∧ cur.length = c * k ∧ cur.take (i * k) = fq (us.take i) ∧ (cur.drop ((i + m) * k)).take ((us.length - i) * k) = fq (us.drop i)
theorem WL.Rq {k : Nat} {kp : 0 < k} {dT sT e : TypeId} {Ro i m c : Nat} {A : an3} {us : List (Cells k)} {S : Nat → Prop} {x y : Operand}
    (hx : gF l x = some (.slice (oD A c (i + m) k) (us.length + m - (i + m)) (c - (i + m)))) (hy : gF l y = some (.slice (oD A c i k) (us.length + m - i) (c - i)))
    (hu : P.underlying dT = some (.slice e)) (hs : Size P e k) (ho : Own (oF k kp) e Ro S w A c us) (hi : i < us.length) (hm : us.length + m ≤ c) (hd : Nat.blt d n.size = true)
    (kk : ∀ w' v, Gap e Ro w' A c us i m → yw w w' (blk A) → w'.heap.size = w.heap.size → WL P n ops Q K os ((d, v) :: l) w') : WL P n ops Q K (⟨some d, .call ⟨.builtin .copy, #[x, y], #[dT, sT]⟩, ty, pos, jI, none⟩ :: os) l w := by
  obtain ⟨g, cur, rfl, hg, hb, hnc, hcm, hcl, ht⟩ := ho.open_ (by omega)
  have NY : (fq (us.drop i)).length = Nat.min (us.length + m - i) (us.length + m - (i + m)) * k := by
    rw [fG, List.length_drop, show Nat.min (us.length + m - i) (us.length + m - (i + m)) = us.length - i from by rw [NW]; split <;> omega]
  have hik : i * k ≤ us.length * k := Nat.mul_le_mul_right _ (by omega)
  have hsrc : ∀ j v, (fq (us.drop i))[j]? = some v → w.cell? ((⟨g, i * k, none⟩ : Addr).add j) = some v := by
    intro j v hj
    rw [Addr.add_lit, hb.cell]
    rw [← yG, List.getElem?_drop, ← ht, List.getElem?_take] at hj
    split at hj
    · exact hj
    · cases hj
  have hfit : (i + m) * k + (fq (us.drop i)).length ≤ cur.length := by
    rw [fG, List.length_drop, ← Nat.add_mul, hcl]; exact Nat.mul_le_mul_right _ (by omega)
  have hrun := Ar (P := P) (sT := sT) (ty := ty) (dc := c - (i + m)) (sc := c - i) hu hs hb NY hsrc hfit xD
  rw [sV (by omega)] at hx hy
  refine WL.val (v := goInt (Nat.min (us.length + m - i) (us.length + m - (i + m)))) (fun a _ => dY a) Y hd (R := fun w2 => w2 = _) (fun a ha => ⟨_, ?_, Y⟩) fun w2 e => by
    rw [e]
    refine kk _ _ ⟨g, _, Y, hg, setRow_heap w g _ _ _ _ hb, hm, hcm, by rw [lN hfit]; exact hcl, ?_, ?_⟩ (lM w g _) (by simp [World.setRow])
    · have h1 : i * k ≤ (i + m) * k := Nat.mul_le_mul_right _ (by omega)
      have h2 : (cur.take ((i + m) * k)).length = (i + m) * k := by simp only [List.length_take]; omega
      rw [List.append_assoc, List.take_append_of_le_length (by omega), List.take_take, Nat.min_eq_left h1, ← uw, ← ht, List.take_take, Nat.min_eq_left hik]
    · have h2 : (cur.take ((i + m) * k)).length = (i + m) * k := by simp only [List.length_take]; omega
      rw [List.append_assoc, List.drop_append_of_le_length (by omega), List.drop_of_length_le (by omega), List.nil_append]
      rw [List.take_append_of_le_length (by rw [fG, List.length_drop]; exact Nat.le_refl _), List.take_of_length_le (by rw [fG, List.length_drop]; exact Nat.le_refl _)]
  unfold execOp
  simp only [resolve, Sem.run_bind, Sem.run_pure, Result.andThen_ok, invoke, builtin, List.map_toArray, List.map_cons, List.map_nil, ha.eval hx, ha.eval hy, hrun]
theorem WL.Yn {k : Nat} {kp : 0 < k} {dT sT e : TypeId} {Ro i m c d2 : Nat} {A B : an3} {us vs : List (Cells k)} {S S2 : Nat → Prop} {x y : Operand}
    (hx : gF l x = some (.slice (oD A c i k) (us.length + m - i) (c - i))) (hy : gF l y = some (.slice B vs.length d2))
    (hu : P.underlying dT = some (.slice e)) (hs : Size P e k) (ho : Gap e Ro w A c us i m) (hv : Sl (oF k kp) S2 w B d2 vs) (hm : vs.length = m) (h0 : 0 < m) (hi : i < us.length) (hd : Nat.blt d n.size = true)
    (kk : ∀ w' v, Own (oF k kp) e Ro S w' A c (us.take i ++ vs ++ us.drop i) → yw w w' (blk A) → w'.heap.size = w.heap.size → WL P n ops Q K os ((d, v) :: l) w') : WL P n ops Q K (⟨some d, .call ⟨.builtin .copy, #[x, y], #[dT, sT]⟩, ty, pos, jI, none⟩ :: os) l w := by
  obtain ⟨g, cur, rfl, hg, hb, hnc, hcm, hcl, h1, h2⟩ := ho
  have hB : B = some (vV B) := hv.some_ (i := 0) (x := vs[0]'(by omega)) (List.getElem?_eq_getElem _)
  have hmin : Nat.min vs.length (us.length + m - i) = m := by rw [NW]; split <;> omega
  have NY : (fq vs).length = Nat.min vs.length (us.length + m - i) * k := by rw [fG, hmin, hm]
  have hfit : i * k + (fq vs).length ≤ cur.length := by rw [fG, ← Nat.add_mul, hcl]; exact Nat.mul_le_mul_right _ (by omega)
  have hrun := Ar (P := P) (sT := sT) (ty := ty) (dc := c - i) (sc := d2) hu hs hb NY hv.Au hfit xD
  rw [sV (by omega)] at hx
  rw [hB] at hy
  have hlen : (us.take i ++ vs ++ us.drop i).length = us.length + m := by simp only [List.length_append, List.length_take, List.length_drop]; omega
  refine WL.val (v := goInt (Nat.min vs.length (us.length + m - i))) (fun a _ => dY a) Y hd (R := fun w2 => w2 = _) (fun a ha => ⟨_, ?_, Y⟩) fun w2 e => by
    rw [e]
    refine kk _ _ (Own.Ky hg (setRow_heap w g _ _ _ _ hb) (by omega) hcm (by rw [lN hfit]; exact hcl) ?_) (lM w g _) (by simp [World.setRow])
    rw [hlen, wB (by rw [fG, ← Nat.add_mul]; exact Nat.mul_le_mul_right _ (by omega)) (by rw [hcl]; exact Nat.mul_le_mul_right _ hnc), h1, kJ, kJ]
    congr 1
    rw [fG, ← Nat.add_mul, hm, List.drop_take, ← Nat.sub_mul, show us.length + m - (i + m) = us.length - i from by omega, h2]
  unfold execOp
  simp only [resolve, Sem.run_bind, Sem.run_pure, Result.andThen_ok, invoke, builtin, List.map_toArray, List.map_cons, List.map_nil, ha.eval hx, ha.eval hy, hrun]
end
structure qC (P : Program) (e : TypeId) (k bytes : Nat) : Prop where
  ex : ∃ (i : TypeInfo) (z : Value), P.info? e = some i ∧ i.zero = some z ∧ i.size = k ∧ i.bytes = bytes ∧ z.cells.size = k ∧ ∀ v ∈ z.cells.toList, v.oneCell' = true
theorem Gq {k : Nat} (u : Cells k) : ∀ (m j : Nat), j < m * k → (fq (List.replicate m u))[j]? = u.1[j % k]?
  | 0, j, h => by omega
  | m + 1, j, h => by
    have h0 := u.2.1
    have e : fq (List.replicate (m + 1) u) = u.1 ++ fq (List.replicate m u) := by simp [fq, List.replicate_succ]
    rw [e]
    by_cases hj : j < k
    · rw [List.getElem?_append_left (by omega), Nat.mod_eq_of_lt hj]
    · have h3 : j - k < m * k := by rw [Nat.add_mul] at h; omega
      have h4 : j % k = (j - k) % k := Nat.mod_eq_sub_mod (by omega)
      rw [List.getElem?_append_right (by omega), h0, Gq u m (j - k) h3, h4]
theorem wC {k : Nat} (z : Array Value) (u : Cells k) (hu : z.toList = u.1) (m : Nat) (kp : 0 < k) : (Builtin.zeroCells z m).toList = fq (List.replicate m u) := by
  have hz : z.size = k := by rw [← Array.length_toList, hu, u.2.1]
  apply List.ext_getElem?
  intro j
  by_cases hj : j < m * k
  · rw [Gq u m j hj]
    have hlt : j % k < k := Nat.mod_lt _ kp
    have h2 : u.1[j % k]? = some (z[j % k]'(by omega)) := by
      rw [← hu, Array.getElem?_toList, Array.getElem?_eq_getElem (by omega)]
    rw [h2]
    simp only [Builtin.zeroCells, Array.toList_map, List.getElem?_map, Array.getElem?_toList, hz]
    rw [Array.getElem?_eq_getElem (by simpa using hj)]
    simp only [Array.getElem_range, Option.map_some]
    rw [getElem!_pos z (j % k) (by omega)]
  · have h1 : (fq (List.replicate m u))[j]? = none := List.getElem?_eq_none (by rw [fG, List.length_replicate]; omega)
    have h2 : (Builtin.zeroCells z m).toList[j]? = none := List.getElem?_eq_none (by simp only [Builtin.zeroCells, Array.length_toList, Array.size_map, Array.size_range, hz]; omega)
    rw [h1, h2]
section
variable {P : Program} {n : Cx} {l : List (Nat × Value)} {w : World} {Q : Exit → Act → World → Prop} {K : Act → World → Prop} {ops : Array Oper} {os : List Oper} {ty : TypeId} {pos : String} {jI : Array Edge} {d : Nat}
theorem WL.NZ {k : Nat} {kp : 0 < k} {t e ti : TypeId} {bytes m c : Nat} {A : an3} {us : List (Cells k)} {S : Nat → Prop} {s x : Operand} (hs : gF l s = some (.slice A us.length c)) (hx : gF l x = some (.int .i64 (m : Int))) (hT : P.underlying t = some (.slice e)) (hi : P.underlying ti = some (.int .i64))
    (hz : qC P e k bytes) (hu : Sl (oF k kp) S w A c us) (hc : c < us.length + m) (h0 : 0 < m) (h1 : us.length ≤ 1000000) (h2 : m ≤ 1000000) (hby : Nat.ble bytes 1000 = true) (hd : Nat.blt d n.size = true)
    (kk : ∀ g c' w' (z : Cells k), Own (oF k kp) e w.heap.size No w' (some ⟨g, 0, none⟩) c' (us ++ List.replicate m z) → Ext w w' → WL P n ops Q K os ((d, .slice (some ⟨g, 0, none⟩) (us.length + m) c') :: l) w') :
    WL P n ops Q K (⟨some d, .call ⟨.builtin .append, #[s, x], #[t, ti]⟩, ty, pos, jI, none⟩ :: os) l w := by
  obtain ⟨i, z, z1, z2, z3, z4, z5, z6⟩ := hz.ex
  have hb : bytes ≤ 1000 := Nat.le_of_ble_eq_true hby
  have hmul : (us.length + m) * bytes ≤ 2000000 * 1000 := Nat.mul_le_mul (by omega) hb
  have akx : m * bytes ≤ 1000000 * 1000 := Nat.mul_le_mul h2 hb
  have aY : (Builtin.firstCells i.size us.length (.slice A us.length c)).run P w.drew = .ok (fq us).toArray w.drew := by
    rw [z3]
    by_cases hn : us.length = 0
    · have : us = [] := List.eq_nil_of_length_eq_zero hn
      subst this
      cases A <;> simp [Builtin.firstCells, loadCells, loadCellsFrom, fq]
    · have hA : A = some (vV A) := hu.some_ (i := 0) (x := us[0]'(by omega)) (List.getElem?_eq_getElem _)
      rw [hA]
      exact run_firstCells_some w.drew k us.length (vV A) _ _ (fq us) (fG us) (fun j v hj => hu.Au j v hj)
  obtain ⟨W2, hW2, hrun⟩ : ∃ W2, W2 = w.drew.alloc (.cells ((fq us).toArray ++ Builtin.zeroCells z.cells m ++ Builtin.zeroCells z.cells (grownCap w (us.length + m) c e - (us.length + m))) e) ∧ (Builtin.append_ #[t, ti] ty #[.slice A us.length c, .int .i64 (m : Int)]).run P w = .ok (.slice (some ⟨w.heap.size, 0, none⟩) (us.length + m) (grownCap w (us.length + m) c e)) W2 := ⟨_, rfl, Lib.run_append_grow_zeros (P := P) w t ti ty e i z .i64 .i64 hT hi z1 z2 A us.length c (fq us) aY m h0 (by omega) hc (by omega) (by rw [z4]; omega) (growslice_fits hc (by rw [z4]; omega))⟩
  refine WL.val (v := .slice (some ⟨w.heap.size, 0, none⟩) (us.length + m) (grownCap w (us.length + m) c e)) (fun a _ => dY a) Y hd (R := fun w2 => w2 = W2) (fun a ha => ⟨W2, ?_, Y⟩) fun w2 e' => by
    rw [e', hW2]
    have hzc : z.cells.toList.length = k := by rw [Array.length_toList]; exact z5
    refine kk _ _ _ ⟨z.cells.toList, hzc, z6⟩ ?_ ⟨Y, Y, Y, by simp, fun k hk => Below.heap_alloc w.drew _ k hk, Nat.le_succ _⟩
    have hf := fun m => wC (k := k) z.cells ⟨z.cells.toList, hzc, z6⟩ rfl m kp
    have hge := grownCap_ge w (us.length + m) c e
    have hle := grownCap_le_maxLen w (us.length + m) c e (by simp only [maxLen]; omega)
    refine Own.Ky (cur := fq us ++ fq (List.replicate m ⟨z.cells.toList, hzc, z6⟩) ++ fq (List.replicate (grownCap w (us.length + m) c e - (us.length + m)) ⟨z.cells.toList, hzc, z6⟩)) (Nat.le_refl _) ?_ ?_ ?_ ?_ ?_
    · rw [← hf, ← hf]
      have ea : (fq us).toArray ++ Builtin.zeroCells z.cells m ++ Builtin.zeroCells z.cells (grownCap w (us.length + m) c e - (us.length + m)) = (fq us ++ (Builtin.zeroCells z.cells m).toList ++ (Builtin.zeroCells z.cells (grownCap w (us.length + m) c e - (us.length + m))).toList).toArray := by
        apply Array.toList_inj.1; simp
      rw [ea]
      exact Bx.new w.drew e _
    · simpa using hge
    · exact hle
    · simp only [List.length_append, fG, List.length_replicate, ← Nat.add_mul]; congr 1; omega
    · rw [List.take_append_of_le_length (by simp only [List.length_append, fG, List.length_replicate, ← Nat.add_mul]; exact Nat.le_refl _), List.take_of_length_le (by simp only [List.length_append, fG, List.length_replicate, ← Nat.add_mul]; exact Nat.le_refl _), kJ]
  unfold execOp
  simp only [resolve, Sem.run_bind, Sem.run_pure, Result.andThen_ok, invoke, builtin, List.map_toArray, List.map_cons, List.map_nil, ha.eval hs, ha.eval hx, hrun]
end
def overlay (cs : List Value) (f : Nat) (ds : List Value) : List Value := cs.take f ++ ds ++ cs.drop (f + ds.length)
section
variable {P : Program} {n : Cx} {l : List (Nat × Value)} {w : World} {Q : Exit → Act → World → Prop} {K : Act → World → Prop} {ops : Array Oper} {os : List Oper} {ty : TypeId} {pos : String} {jI : Array Edge} {d : Nat}
theorem Own.whole {α : Type} {τ : Ty α} {e : TypeId} {lo : Nat} {S : Nat → Prop} {A : an3} {c : Nat} {xs : List α} (h : Own τ e lo S w A c xs) (hc : 0 < xs.length) :
    ∃ g cur us, A = some ⟨g, 0, none⟩ ∧ lo ≤ g ∧ Bx w g e cur ∧ xs.length ≤ c ∧ c ≤ maxLen ∧ cur.length = c * τ.k ∧ cur.take (xs.length * τ.k) = fq us ∧ Rel τ S w xs us := by
  obtain ⟨us, h1, h2⟩ := h.raw
  have hcap := (h1.sl (S' := Any) (fun _ _ => trivial) (fun _ _ => trivial)).cap
  obtain ⟨g, cur, h3, h4, h5, h6, h7, h8, h9⟩ := h1.open_ (by rw [h2.1] at hcap; omega)
  rw [h2.1] at h6 h9
  exact ⟨g, cur, us, h3, h4, h5, h6, h7, h8, h9, h2⟩
theorem Rt {k : Nat} (us : List (Cells k)) (i f : Nat) (u v : Cells k) (ds : List Value) (hu : us[i]? = some u) (hv : v.1 = overlay u.1 f ds) (hf : f + ds.length ≤ k) :
    (fq us).take (i * k + f) ++ ds ++ (fq us).drop (i * k + f + ds.length) = fq (us.set i v) := by
  have hi : i < us.length := aC hu
  have hsplit : us = us.take i ++ u :: us.drop (i + 1) := by
    rw [← List.getElem?_eq_some_iff.1 hu |>.2]
    rw [List.getElem_cons_drop, List.take_append_drop]
  have hset : us.set i v = us.take i ++ v :: us.drop (i + 1) := List.set_eq_take_append_cons_drop ▸ by rw [if_pos hi]
  have h0 := u.2.1
  have hl : (fq (us.take i)).length = i * k := by rw [fG, List.length_take, Nat.min_eq_left (by omega)]
  have e : fq us = fq (us.take i) ++ (u.1 ++ fq (us.drop (i + 1))) := by
    conv => lhs; rw [hsplit]
    rw [kJ]; simp [fq]
  rw [hset, kJ, e]
  have a1 : (fq (us.take i)).take (i * k + f) = fq (us.take i) := List.take_of_length_le (by omega)
  have a2 : (fq (us.take i)).drop (i * k + f + ds.length) = [] := List.drop_of_length_le (by omega)
  rw [List.take_append, List.drop_append, hl, a1, a2, List.nil_append]
  rw [show i * k + f - i * k = f from by omega, show i * k + f + ds.length - i * k = f + ds.length from by omega]
  rw [List.take_append_of_le_length (by omega), List.drop_append_of_le_length (by omega)]
  simp only [fq, List.map_cons, List.flatten_cons, hv, overlay, List.append_assoc]
theorem FX {α : Type} {τ : Ty α} {e t : TypeId} {lo f i c : Nat} {S : Nat → Prop} {A : an3} {xs : List α} {x x' : α} {v : Value} {ds : List Value} (ho : Own τ e lo S w A c xs) (hx : xs[i]? = some x) (hv : v.cells = ds.toArray) (hs : Size P t ds.length)
    (hf : f + ds.length ≤ τ.k) (h1 : ∀ u ∈ ds, u.oneCell' = true) (hS : ∀ g, blk A = some g → ¬ S g) (hR : ∀ w' cs, yw w w' (blk A) → τ.R S w x cs → τ.R S w' x' (overlay cs f ds)) :
    ∃ w', (Instr.storeAt t (.pointer (some ((vV A).add (i * τ.k + f)))) v).run P w = .ok () w' ∧ Own τ e lo S w' A c (xs.set i x') ∧ yw w w' (blk A) ∧ w'.heap.size = w.heap.size := by
  have hi := aC hx
  obtain ⟨g, cur, us, rfl, hg, hb, hnc, hcm, hcl, ht, hrel⟩ := ho.whole (by omega)
  have hik : i * τ.k + τ.k ≤ xs.length * τ.k := by rw [← Nat.succ_mul]; exact Nat.mul_le_mul_right _ hi
  have hnk : xs.length * τ.k ≤ cur.length := by rw [hcl]; exact Nat.mul_le_mul_right _ hnc
  have had : (vV (some ⟨g, 0, none⟩)).add (i * τ.k + f) = ⟨g, i * τ.k + f, none⟩ := by simp [vV, Addr.add_lit]
  have hst := run_storeCells_at P g (i * τ.k + f) e ds 0 cur.toArray w hb (by simpa using by omega) h1
  have hgr := lM w g (cur.take (i * τ.k + f) ++ ds ++ cur.drop (i * τ.k + f + ds.length)).toArray
  obtain ⟨u, hu⟩ := get_some (xs := us) (i := i) (by rw [hrel.1]; exact hi)
  have hRu := hR _ _ hgr (hrel.2 i x u hx hu)
  refine ⟨_, ?_, ?_, hgr, by simp [World.setRow]⟩
  · rw [had]
    simp only [Instr.storeAt, Instr.sureAddr, storeVar, hv, Sem.run_bind, Sem.run_pure, Result.andThen_ok, hs w]
    simp only [List.size_toArray, ne_eq, not_true_eq_false, if_false, Sem.run_bind, Sem.run_pure, Result.andThen_ok]
    rw [hst]
    simp
  · let v' : Cells τ.k := ⟨overlay u.1 f ds, τ.len hRu, τ.one hRu⟩
    have hlen : (us.set i v').length = xs.length := by rw [List.length_set, hrel.1]
    refine Own.ofRaw (S' := No) (us := us.set i v') (Own.Ky hg (setRow_heap w g _ _ e _ hb) (by rw [hlen]; exact hnc) hcm (by rw [lN (by omega)]; exact hcl) ?_) ⟨by rw [hlen, List.length_set], ?_⟩
    · rw [hlen, wB (by omega) hnk, ht, ← Rt us i f u v' ds hu rfl hf]
      congr 2
      rw [← ht, List.take_take, Nat.min_eq_left (by omega)]
    · intro j y u' hy hu'
      by_cases hj : i = j
      · subst hj
        rw [List.getElem?_set_self hi] at hy
        rw [List.getElem?_set_self (by rw [hrel.1]; exact hi)] at hu'
        cases hy; cases hu'
        exact hRu
      · rw [List.getElem?_set_ne hj] at hy hu'
        exact (hrel.grown hgr hS).2 j y u' hy hu'
theorem WL.Ru {α : Type} {τ : Ty α} {e t : TypeId} {lo f i c : Nat} {S : Nat → Prop} {A : an3} {xs : List α} {x x' : α} {v : Value} {ds : List Value} {p y : Operand} {q : Addr} (hp : gF l p = some (.pointer (some q))) (hy : gF l y = some v) (hq : q = (vV A).add (i * τ.k + f))
    (ho : Own τ e lo S w A c xs) (hx : xs[i]? = some x) (hv : v.cells = ds.toArray) (hs : Size P t ds.length)
    (hf : f + ds.length ≤ τ.k) (h1 : ∀ u ∈ ds, u.oneCell' = true) (hS : ∀ g, blk A = some g → ¬ S g) (hR : ∀ w' cs, yw w w' (blk A) → τ.R S w x cs → τ.R S w' x' (overlay cs f ds))
    (kk : ∀ w', Own τ e lo S w' A c (xs.set i x') → yw w w' (blk A) → w'.heap.size = w.heap.size → WL P n ops Q K os l w') : WL P n ops Q K (⟨none, .store t p y, ty, pos, jI, none⟩ :: os) l w := by
  obtain ⟨w', hrun, h2, h3, h4⟩ := FX (P := P) (f := f) (x' := x') ho hx hv hs hf h1 hS hR
  exact WL.unit (fun a _ => dY a) Y (R := fun w2 => w2 = w') (fun a ha => ⟨w', by unfold execOp; simp [ha.eval hp, ha.eval hy, hq, hrun], rfl⟩) fun w2 e => by rw [e]; exact kk w' h2 h3 h4
theorem Dv {k : Nat} {kp : 0 < k} {t e ty : TypeId} {bytes lo c m : Nat} {S : Nat → Prop} {A : an3} {us : List (Cells k)} (hT : P.underlying t = some (.slice e)) (hz : qC P e k bytes) (ho : Own (oF k kp) e lo S w A c us) (hm : us.length + m ≤ c) :
    ∃ w', (Builtin.clear_ #[t] ty #[.slice (oD A c us.length k) m (c - us.length)]).run P w = .ok (.tuple #[]) w' ∧ Own (oF k kp) e lo S w' A c us ∧ yw w w' (blk A) ∧ w'.heap.size = w.heap.size := by
  by_cases h0 : m = 0
  · subst h0
    refine ⟨w, ?_, ho, ⟨Y, Y, Y, Nat.le_refl _, fun _ _ _ => Y, Nat.le_refl _⟩, Y⟩
    cases hc : oD A c us.length k <;> simp [Builtin.clear_, run_underlying hT]
  · obtain ⟨g, cur, rfl, hg, hb, hnc, hcm, hcl, ht⟩ := ho.open_ (by omega)
    obtain ⟨i, z, z1, z2, z3, z4, z5, z6⟩ := hz.ex
    have hzc : z.cells.toList.length = k := by rw [Array.length_toList]; exact z5
    have hf := wC (k := k) z.cells ⟨z.cells.toList, hzc, z6⟩ rfl m kp
    have hlen : (Builtin.zeroCells z.cells m).toList.length = m * k := by rw [hf, fG, List.length_replicate]
    have hfit : us.length * k + (Builtin.zeroCells z.cells m).toList.length ≤ cur.length := by rw [hlen, ← Nat.add_mul, hcl]; exact Nat.mul_le_mul_right _ hm
    have hst := run_storeCells_at P g (us.length * k) e (Builtin.zeroCells z.cells m).toList 0 cur.toArray w hb (by simpa using hfit) (by rw [hf]; exact xD)
    simp only [Nat.add_zero] at hst
    rw [sV (by omega)]
    refine ⟨_, ?_, Own.Ky hg (setRow_heap w g _ (cur.take (us.length * k) ++ (Builtin.zeroCells z.cells m).toList ++ cur.drop (us.length * k + (Builtin.zeroCells z.cells m).toList.length)).toArray e _ hb) hnc hcm (by rw [lN hfit]; exact hcl) ?_, lM w g _, by simp [World.setRow]⟩
    · obtain ⟨m', rfl⟩ : ∃ m', m = m' + 1 := ⟨m - 1, by omega⟩
      have hzv : ∀ w, (zeroValue e).run P w = .ok z w := fun w => by simp [zeroValue, typeInfo, z1, z2]
      simp only [Builtin.clear_, List.getElem?_toArray, List.getElem?_cons_zero, Sem.run_bind, Sem.run_pure, Result.andThen_ok, run_underlying hT, hzv]
      rw [hst]
      simp
    · rw [List.append_assoc, List.take_append_of_le_length (by simp only [List.length_take]; omega), List.take_take, Nat.min_self, ht]
end
section
variable {P : Program} {n : Cx} {l : List (Nat × Value)} {w : World} {t e : TypeId} {x : Operand}
theorem Ev.Dw {k : Nat} {A : an3} {m c hi : Nat} {kh : IntKind} {zh : Int} {yh : Operand} (hu : P.underlying t = some (.slice e)) (hs : Size P e k) (hx : gF l x = some (.slice A m c)) (hh : gF l yh = some (.int kh zh))
    (h2 : zh = (hi : Int)) (h4 : hi ≤ c) : Ev P n l w (.slice t x none (some yh) none) (.slice A hi c) := fun o a w' ho ha _ => by
  have hcz := xC A c k
  unfold oD at hcz
  unfold execOp; rw [ho]
  have h6 : (Instr.sliceAt t (.slice A m c) none (some (.int kh zh)) none).run P w' = .ok (.slice A hi c) w' := by
    rw [run_sliceAt_slice w' t _ _ _ _ (l5 hu), run_slice_h w' t A m c (l5 hu) kh zh (by omega) (by omega), uo hu, hs w', h2]
    simp only [Result.andThen_ok, sliced, Int.toNat_natCast, Nat.sub_zero]
    rw [hcz]
  simp [ha.eval hx, ha.eval hh, h6]
theorem Ev.mM {k : Nat} {A : an3} {m c lo : Nat} {kl : IntKind} {zl : Int} {yl : Operand} (hu : P.underlying t = some (.slice e)) (hs : Size P e k) (hx : gF l x = some (.slice A m c)) (hl : gF l yl = some (.int kl zl))
    (h1 : zl = (lo : Int)) (h3 : lo ≤ m) (h5 : m ≤ c) : Ev P n l w (.slice t x (some yl) none none) (.slice (oD A c lo k) (m - lo) (c - lo)) := fun o a w' ho ha _ => by
  unfold execOp; rw [ho]
  have h6 : (Instr.sliceAt t (.slice A m c) (some (.int kl zl)) none none).run P w' = .ok (.slice (oD A c lo k) (m - lo) (c - lo)) w' := by
    rw [run_sliceAt_slice w' t _ _ _ _ (l5 hu), run_slice_l w' t A m c (l5 hu) kl zl (by omega) (by omega), uo hu, hs w', h1]
    simp [sliced, oD]
  simp [ha.eval hx, ha.eval hl, h6]
end
section
variable {P : Program} {n : Cx} {l : List (Nat × Value)} {w : World} {Q : Exit → Act → World → Prop} {K : Act → World → Prop} {ops : Array Oper} {os : List Oper} {ty : TypeId} {pos : String} {jI : Array Edge} {d : Nat}
theorem WL.extern {Af : Operand} {args : List Operand} {tys : Array TypeId} {f : FuncId} {caps vs all : List Value} {v : Value}
    (hf : gF l Af = some (.func (.func f) #[] caps.toArray)) (hargs : yF l args = some vs) (hall : vs ++ caps = all) (hc : (callFunc f all.toArray).run P w = .ok (.value v) w) (hd : Nat.blt d n.size = true)
    (k : WL P n ops Q K os ((d, v) :: l) w) : WL P n ops Q K (⟨some d, .call ⟨.value Af, args.toArray, tys⟩, ty, pos, jI, none⟩ :: os) l w := by
  refine WL.val (v := v) (fun a _ => dY a) Y hd (R := fun w2 => w2 = w) (fun a ha => ⟨w, ?_, Y⟩) fun w2 e => by rw [e]; exact k
  unfold execOp
  have h1 := ha.eval hf
  have h2 := ha.J9 hargs
  simp only [resolve, h1, Deferred.ofValue, Sem.run_bind, Sem.run_pure, Result.andThen_ok, invoke]
  have : (#[] ++ Array.map a.eval args.toArray ++ caps.toArray : Array Value) = all.toArray := by
    rw [List.map_toArray, h2, ← hall]; simp
  rw [this]
  exact hc
theorem KA {g : Nat} {t : TypeId} {cs : List Value} (h : Bx w g t cs) : w.shape? g = some (t, cs.length) := by
  unfold Bx at h; simp [World.shape?, h]
theorem CJ {f : FuncId} {fn : Func} {tS tR e : TypeId} {k gv g : Nat} {cs ds : List Value} {ev e2 : TypeId} {la ca ob lb cb : Nat} (hf : P.funcs[f]? = some fn) (hname : (fn.name == "runtime.NumGoroutine") = false) (hb : fn.body.isNone = true) (hn : Extern.findNext fn = none)
    (he : Extern.find fn = some (Extern.SlicesOverlaps.overlaps #[tS, tS] #[tR])) (ht : P.underlying tS = some (.slice e)) (hs : Size P e k) (hv : Bx w gv ev cs) (hg : Bx w g e2 ds) (hne : gv ≠ g) (h0 : 0 < ds.length) :
    (callFunc f #[.slice (some ⟨gv, 0, none⟩) la ca, .slice (some ⟨g, ob, none⟩) lb cb]).run P w = .ok (.value (.bool false)) w := by
  rw [run_callFunc_extern hf hname hb hn he]
  rw [Lib.run_overlaps_apart w tS tR e ht k hs ⟨gv, 0, none⟩ ⟨g, ob, none⟩ la ca lb cb hne ev e2 cs.length ds.length (KA hv) (KA hg) (by omega) (hv.frozen 0) (hv.frozen _)]
  rfl
end
section
variable {P : Program} {n : Cx} {l l' : List (Nat × Value)} {w w' : World} {Q : Exit → Act → World → Prop} {K : Act → World → Prop} {ops : Array Oper} {fuel : Nat} {listed : Array Bool}
theorem WH.pI (i : Nat) {op : Op} {ty : TypeId} {pos : String} {jI : Array Edge} {d : Nat} {v : Value} (hi : ops[i]? = some ⟨some d, op, ty, pos, jI, none⟩) (hs : Region.noSelect ops = true) (hf : Region.free .any ops listed i = true)
    (hr : (Region.ready .any ops listed).contains i = true) (he : ∀ w0, Ev P n l w0 op v) (hd : Nat.blt d n.size = true) (k : WH P n ops K (fun _ => True) fuel (listed.setIfInBounds i true) ((d, v) :: l) w) :
    WH P n ops K (fun _ => True) (fuel + 1) listed l w := fun a ha =>
  wpAnyH_take hi hs hf hr (fun _ _ _ h => h) (.inl ⟨dY a, fun w' _ => he w' _ a w' rfl ha (Ext.refl w')⟩) trivial (k _ (ha.put hd v))
end
theorem P6 {α : Type} (us : List α) (u : α) {i : Nat} (h : i = us.length) : us.take i ++ [u] ++ us.drop i = us ++ [u] := by subst h; simp
theorem P7 {k : Nat} (a r vs : List (Cells k)) (i m : Nat) (h1 : a.length = i) (h2 : vs.length = m) (h3 : m ≤ r.length) : over (a ++ r) i vs = a ++ vs ++ r.drop m := by
  subst h1 h2
  have h4 : (a ++ r).take a.length = a := List.take_left' rfl
  have h5 : vs.take ((a ++ r).length - a.length) = vs := List.take_of_length_le (by rw [List.length_append]; omega)
  have h6 : (a ++ r).drop (a.length + vs.length) = r.drop vs.length := by
    have h7 : a.drop (a.length + vs.length) = [] := List.drop_of_length_le (by omega)
    rw [List.drop_append, h7, List.nil_append]
    congr 1; omega
  unfold over
  rw [h4, h5, h6]
theorem Ue {k : Nat} (us : List (Cells k)) (u z : Cells k) {i : Nat} (h : i ≤ us.length) : over (over (us.take i ++ List.replicate (us.length + 1 - i) z) i [u]) (i + 1) (us.drop i) = us.take i ++ [u] ++ us.drop i := by
  have h1 : (us.take i).length = i := by simp only [List.length_take]; omega
  rw [P7 (us.take i) (List.replicate (us.length + 1 - i) z) [u] i 1 h1 rfl (by rw [List.length_replicate]; omega), List.drop_replicate]
  rw [P7 (us.take i ++ [u]) _ (us.drop i) (i + 1) (us.length - i) (by rw [List.length_append, h1]; rfl) (by rw [List.length_drop]) (by rw [List.length_replicate]; omega), List.drop_replicate]
  rw [show us.length + 1 - i - 1 - (us.length - i) = 0 from by omega, List.replicate_zero, List.append_nil]
theorem Ext.Rw {w w1 w2 w3 : World} {g : Nat} {X : Option Nat} (e : Ext w w1) (h2 : yw w1 w2 (some g)) (h3 : yw w2 w3 (some g)) (hg : w.heap.size ≤ g) : yw w w3 X :=
  have e2 : Ext w w3 := (e.mod (Mod.kQ h2 (fun k hk => by cases hk; rfl)) hg).mod (Mod.kQ h3 (fun k hk => by cases hk; rfl)) hg
  ⟨e2.os, e2.tape, e2.output, e2.size, fun k hk _ => e2.block k hk, e2.drawn⟩
theorem IK {w w1 w2 : World} {X : Option Nat} (h1 : yw w w1 X) (h2 : yw w1 w2 X) : yw w w2 X :=
  ⟨h2.os.trans h1.os, h2.tape.trans h1.tape, h2.output.trans h1.output, Nat.le_trans h1.size h2.size, fun k hk hn => (h2.block k (Nat.lt_of_lt_of_le hk h1.size) hn).trans (h1.block k hk hn), Nat.le_trans h1.drawn h2.drawn⟩
theorem Rel.one {α : Type} {τ : Ty α} {S : Nat → Prop} {w : World} {x : α} {u : Cells τ.k} (h : τ.R S w x u.1) : Rel τ S w [x] [u] := by
  refine ⟨Y, fun i y v hy hv => ?_⟩
  cases i with
  | zero => simp at hy hv; subst hy hv; exact h
  | succ i => simp at hy
section
variable {P : Program} {n : Cx} {l : List (Nat × Value)} {w : World} {t ty d : TypeId} {x y : Operand} {k k' : IntKind} {m : Nat}
theorem Ev.CY (hs : (P.underlying t).isSome = true) (hd : P.underlying d = some (.int (P.intKind d))) (hk : P.intKind d = k') (hx : gF l x = some (.int k (m : Int))) (hw : k'.wrap (m : Int) = (m : Int)) : Ev P n l w (.convert t d x) (.int k' (m : Int)) := by
  have := Ev.Yk (P := P) (n := n) (w := w) hs hd hk hx
  rwa [hw] at this
theorem zi (h : m ≤ 9223372036854775807) : IntKind.u64.wrap (m : Int) = (m : Int) := by rw [IntKind.wrap_u64]; omega
theorem zk (h : m ≤ 9223372036854775807) : IntKind.i64.wrap (m : Int) = (m : Int) := (eX.mk (by omega) (by omega)).wrap
theorem Ev.ad3 (hx : gF l x = some (.int .u64 (m : Int))) (hy : gF l y = some (.int .u64 1)) : Ev P n l w (.binOp .shr t x y ty) (.int .u64 ((m / 2 : Nat) : Int)) := fun o a w' ho ha _ => by
  unfold execOp; rw [ho]
  have e : ((m / 2 : Nat) : Int) = (m : Int) / 2 ^ (1 : Int).toNat := by simp
  rw [e]
  simp [ha.eval hx, ha.eval hy, eqGuard_shr, binOp_shr, shift_shr .u64 .u64 (m : Int) 1 (by omega) (by decide)]
end
end Go.Proofs.YtjcklpooaaaglaaGreat
set_option linter.all false
namespace Go.Proofs.YtjcklpooaaaglaaGreat
open Go.RowKit
def lok : List (Nat × Value) → Nat → Option Value
  | [], _ => none
  | p :: l, i => match Nat.beq i p.1 with
    | true => some p.2
    | false => lok l i
theorem Uf : ∀ (l : List (Nat × Value)) (i : Nat), lok l i = look l i
  | [], _ => rfl
  | p :: l, i => by
    unfold lok look
    have e : Nat.beq i p.1 = Nat.beq p.1 i := by
      cases h : Nat.beq p.1 i with
      | true => rw [Nat.eq_of_beq_eq_true h]; exact Nat.beq_refl _
      | false =>
        cases h2 : Nat.beq i p.1 with
        | false => rfl
        | true => rw [Nat.eq_of_beq_eq_true h2, Nat.beq_refl] at h; cases h
    rw [e, Uf l i]
    cases Nat.beq p.1 i <;> rfl
def lkA (l : List (Nat × Value)) : List (Nat × Value) → List (Option Value)
  | [] => []
  | p :: r => look l p.1 :: lkA l r
def lkB (l : List (Nat × Value)) : List (Nat × Value) → List (Option Value)
  | [] => []
  | p :: r => lok l p.1 :: lkB l r
def Sb (l l' : List (Nat × Value)) : Prop := lkA l l' = lkB l' l'
theorem Ug {l l' : List (Nat × Value)} : ∀ {r : List (Nat × Value)}, lkA l r = lkB l' r → ∀ p ∈ r, look l p.1 = look l' p.1
  | [], _, p, hp => by simp at hp
  | q :: r, h, p, hp => by
    have h1 : look l q.1 = lok l' q.1 := (List.cons.inj h).1
    rcases List.mem_cons.1 hp with rfl | hp
    · rw [h1, Uf]
    · exact Ug (List.cons.inj h).2 p hp
theorem KC : ∀ {l : List (Nat × Value)} {i : Nat} {v : Value}, look l i = some v → ∃ p ∈ l, p.1 = i
  | [], i, v, h => by simp [look] at h
  | p :: l, i, v, h => by
    unfold look at h
    cases hb : Nat.beq p.1 i with
    | true => exact ⟨p, by simp, Nat.eq_of_beq_eq_true hb⟩
    | false => simp [hb] at h; obtain ⟨q, hq, e⟩ := KC h; exact ⟨q, by simp [hq], e⟩
theorem Sb.ad5 {l l' : List (Nat × Value)} (h : Sb l l') {i : Nat} {v : Value} (hv : look l' i = some v) : look l i = some v := by
  obtain ⟨p, hp, rfl⟩ := KC hv
  rw [Ug h p hp]; exact hv
theorem Has.sb {n : Cx} {l l' : List (Nat × Value)} {a : Act} (h : Has n l a) (hs : Sb l l') : Has n l' a := ⟨h.defers, h.size, fun i v hv => h.get i v (hs.ad5 hv)⟩
def Yo (n : Cx) (l : List (Nat × Value)) (d : Nat) (x : Operand) : Option Value := bif Nat.blt d n.size then gF l x else none
theorem kY {n : Cx} {l : List (Nat × Value)} {d : Nat} {x : Operand} {v : Value} (h : Yo n l d x = some v) : Nat.blt d n.size = true ∧ gF l x = some v := by
  unfold Yo at h
  cases hb : Nat.blt d n.size with
  | false => rw [hb] at h; cases h
  | true => rw [hb] at h; exact ⟨rfl, h⟩
section
variable {P : Program} {n : Cx} {l l' : List (Nat × Value)} {w w' : World} {Q : Exit → Act → World → Prop} {K : Act → World → Prop} {ops : Array Oper} {os : List Oper} {ty t : TypeId} {pos : String} {jI : Array Edge} {d : Nat} {x y : Operand} {v : Value}
theorem rg {ol : List Oper} {id : Nat} {y : Code} (h : WL P n ol.toArray (Exit.then (J7 P n y Q) Q) (J7 P n y Q) ol l w) (hp : n.plain = false := by rfl) : WP P n (.seq (.region id ol.toArray false) y) l w Q := WP.region h hp
theorem eP {ol : List Oper} {id : Nat} (h : WL P n ol.toArray Q (Q .normal) ol l w) (hp : n.plain = false := by rfl) : WP P n (.region id ol.toArray false) l w Q := WP.NR h hp
theorem dn {y : Code} {Q' : Exit → Act → World → Prop} (h : WP P n y l w Q) : WL P n ops Q' (J7 P n y Q) [] l w := WL.done h
theorem eT {Q' : Exit → Act → World → Prop} (h : aA n Q .normal l w) : WL P n ops Q' (Q .normal) [] l w := WL.T9 h
theorem ev {op : Op} (h : Ev P n l w op v) (k : WL P n ops Q K os ((d, v) :: l) w) (hd : Nat.blt d n.size = true := by rfl) : WL P n ops Q K (⟨some d, op, ty, pos, jI, none⟩ :: os) l w := WL.ev h hd k
theorem mv (h : Yo n l d x = some v) (k : WL P n ops Q K os ((d, v) :: l) w) : WL P n ops Q K (⟨some d, .move x, ty, pos, jI, none⟩ :: os) l w := WL.ev (Ev.move (kY h).2) (kY h).1 k
theorem aR (h : Yo n l d x = some v) (k : WL P n ops Q K os ((d, v) :: l) w) : WL P n ops Q K (⟨some d, .assign x, ty, pos, jI, none⟩ :: os) l w := WL.ev (Ev.assign (kY h).2) (kY h).1 k
theorem xt {vs : List Value} {i : Nat} (h : Yo n l d x = some (.tuple vs.toArray)) (hi : vs[i]? = some v) (k : WL P n ops Q K os ((d, v) :: l) w) : WL P n ops Q K (⟨some d, .extract x i, ty, pos, jI, none⟩ :: os) l w := WL.ev (Ev.extract (kY h).2 hi) (kY h).1 k
theorem WL.dR (m d : Nat) (r : Bool) (h : WL P n ops Q (fun a' w' => Has n ((d, .bool r) :: l) a' ∧ w' = w) (os.take m) l w) (k : WL P n ops Q K (os.drop m) ((d, .bool r) :: l) w) : WL P n ops Q K os l w := WL.cut m _ h k
theorem WQ.dR {Qa : Act → Prop} (m d : Nat) (r : Bool) (h : WQ P n ops w (fun a' => Has n ((d, .bool r) :: l) a') (os.take m) l) (k : WQ P n ops w Qa (os.drop m) ((d, .bool r) :: l)) : WQ P n ops w Qa os l := WQ.cut m _ h k
theorem WL.oI (m d : Nat) (r : Bool) (h : WL P n ops Q (fun a' w' => Has n ((d, .bool r) :: l) a' ∧ Ext w w') (os.take m) l w) (k : ∀ w', Ext w w' → WL P n ops Q K (os.drop m) ((d, .bool r) :: l) w') : WL P n ops Q K os l w := WL.ahO m _ h k
theorem WL.bM {l1 : List (Nat × Value)} (hs : Sb l l1) : WL P n ops Q (fun a' w' => Has n l1 a' ∧ w' = w) [] l w := fun _ ha => ⟨ha.sb hs, rfl⟩
theorem WQ.bM {l1 : List (Nat × Value)} (hs : Sb l l1) : WQ P n ops w (fun a' => Has n l1 a') [] l := fun _ ha => ha.sb hs
theorem WL.iY {l1 : List (Nat × Value)} {w0 : World} (hs : Sb l l1) (he : Ext w0 w) : WL P n ops Q (fun a' w' => Has n l1 a' ∧ Ext w0 w') [] l w := fun _ ha => ⟨ha.sb hs, he⟩
theorem WP.keep' {c : Code} (l' : List (Nat × Value)) (hs : Sb l l') (h : WP P n c l' w Q) : WP P n c l w Q := fun a ha => h a (ha.sb hs)
theorem aA.re {e : Exit} {t : Nat} {u v : Value} (hl : look l t = some u) (he : u = v) (k : aA n Q e ((t, v) :: l) w) : aA n Q e l w := fun a ha => k a (ha.set hl he)
theorem WP.lp {c : Code} (J : Nat → List (Nat × Value) → World → Prop) {m0 : Nat} {l0 : List (Nat × Value)} (h0 : J m0 l0 w) (hs : Sb l l0)
    (hr : ∀ m l w', J m l w' → WP P n c l w' (Exit.then (Again n J m) Q)) : WP P n (.loop c) l w Q := WP.loop J m0 l0 (fun _ ha => ha.sb hs) h0 hr
theorem aA.ag {J : Nat → List (Nat × Value) → World → Prop} {m m' : Nat} {l' : List (Nat × Value)} (hJ : J m' l' w) (hs : Sb l l') (hm : m' < m) : aA n (Exit.then (Again n J m) Q) .normal l w :=
  fun _ ha => ⟨m', l', hm, ha.sb hs, hJ⟩
theorem aA.jag {lb : Nat} {J : Nat → List (Nat × Value) → World → Prop} {m m' : Nat} {l' : List (Nat × Value)} (hJ : J m' l' w) (hs : Sb l l') (hm : m' < m) : aA n (Exit.jump lb (Again n J m) Q) (.goto lb) l w :=
  fun _ ha => ⟨rfl, m', l', hm, ha.sb hs, hJ⟩
theorem WP.kp {c : Code} {J : Nat → List (Nat × Value) → World → Prop} {m : Nat} {l' : List (Nat × Value)} (hp : ∀ m l w, J m l w → WP P n c l w Q) (hJ : J m l' w) (hs : Sb l l') : WP P n c l w Q := fun a ha => hp m l' w hJ a (ha.sb hs)
theorem WH.dn {S : World → Prop} {fuel : Nat} {listed : Array Bool} {J : List (Nat × Value) → World → Prop} {l' : List (Nat × Value)} (hJ : J l' w) (hs : Sb l l') (hr : Region.ready .any ops listed = []) : WH P n ops (JK n J) S fuel listed l w := fun _ ha => wpAnyH_done hr ⟨l', ha.sb hs, hJ⟩ fuel
end
theorem Ev.Uh {P : Program} {n : Cx} {l : List (Nat × Value)} {w : World} {t ty : TypeId} {x y : Operand} {a b : Nat} {z : Int} (hx : gF l x = some (.int .i64 (a : Int))) (hy : gF l y = some (.int .i64 z)) (hz : z = (b : Int)) (h : b ≤ a) (h2 : a ≤ 9223372036854775807) : Ev P n l w (.binOp .sub t x y ty) (.int .i64 ((a - b : Nat) : Int)) := by
  subst hz
  have := Ev.sub (P := P) (n := n) (w := w) (t := t) (ty := ty) hx hy (eX.mk (by omega) (by omega))
  rwa [show (a : Int) - (b : Int) = ((a - b : Nat) : Int) from by omega] at this
theorem Wr.kQ {b w w' : World} {W : Nat → Prop} {X : Option Nat} (h : yw w w' X) (hX : ∀ g, X = some g → W g) : Wr b w w' W :=
  ⟨h.os, h.tape, h.output, h.size, fun k hk hn => h.block k hk (fun e => hn (hX k e.symm)), h.drawn⟩
theorem Wr.Ui {b w w' : World} {W : Nat → Prop} {g : Nat} (h : Mod g w w') (hX : W g) : Wr b w w' W :=
  ⟨h.os, h.tape, h.output, h.size, fun k hk hn => h.block k hk (fun e => hn (e ▸ hX)), h.drawn⟩
section
variable {P : Program} {n : Cx} {l : List (Nat × Value)} {b w : World} {S : Nat → Prop} {rs rest : List jP} {Q : Exit → Act → World → Prop} {K : Act → World → Prop} {ops : Array Oper} {os : List Oper} {ty : TypeId} {pos : String} {jI : Array Edge} {d : Nat}
theorem bx {t : TypeId} {x : Operand} {v : Value} {cs : List Value} (hx : Yo n l d x = some v) (hcs : v.cells = cs.toArray) (H : Hp b S w rs)
    (k : ∀ g w', Hp b S w' (dG g t cs :: rs) → WL P n ops Q K os ((d, .pointer (some ⟨g, 0, none⟩)) :: l) w') : WL P n ops Q K (⟨some d, .box t x, ty, pos, jI, none⟩ :: os) l w :=
  WL.box (kY hx).2 hcs (kY hx).1 fun w' e hb hz => k _ w' (H.new (r := dG w.heap.size t cs) e (fun g hg => by show _ ∧ _; rw [show g = w.heap.size from hg]; omega) hb)
theorem al {t : TypeId} {z : Value} {cs : List Value} (hz : ∀ w, (zeroValue t).run P w = .ok z w) (hcs : z.cells = cs.toArray) (H : Hp b S w rs)
    (k : ∀ g w', Hp b S w' (dG g t cs :: rs) → WL P n ops Q K os ((d, .pointer (some ⟨g, 0, none⟩)) :: l) w') (hd : Nat.blt d n.size = true := by rfl) : WL P n ops Q K (⟨some d, .alloc t, ty, pos, jI, none⟩ :: os) l w :=
  WL.alloc hz hcs hd fun w' e hb hz => k _ w' (H.new (r := dG w.heap.size t cs) e (fun g hg => by show _ ∧ _; rw [show g = w.heap.size from hg]; omega) hb)
theorem ni {α : Type} {τ : Ty α} {t e : TypeId} {m : Nat} {parts : List (Nat × Operand)} {vs : List (Nat × Value)} {cs : List Value} {x : α} (hx : ze l parts = some vs)
    (hb : ∀ w, (Instr.buildSlice t m vs.toArray).run P w = .ok (.slice (some ⟨w.heap.size, 0, none⟩) m m) (w.alloc (.cells cs.toArray e))) (hm : m = 1) (H : Hp b S w rs) (hR : ∀ w', Ext w w' → τ.R (Rd b S rs w) w' x cs)
    (k : ∀ g w', Hp b S w' (aQ τ e (some ⟨g, 0, none⟩) 1 [x] :: rs) → WL P n ops Q K os ((d, .slice (some ⟨g, 0, none⟩) [x].length 1) :: l) w') (hd : Nat.blt d n.size = true := by rfl) : WL P n ops Q K (⟨some d, .buildSlice t m parts.toArray, ty, pos, jI, none⟩ :: os) l w := by
  subst hm
  have hl : cs.length = τ.k := τ.len (hR w (Ext.refl w))
  refine WL.buildSlice (k := τ.k) hx hb hd (by omega) fun w' ex hb' hz => k _ w' (H.new (r := aQ τ e (some ⟨w.heap.size, 0, none⟩) 1 [x]) ex (fun g hg => ?_) (hb'.Yl (hR w' ex) (Nat.zero_le _)))
  have : w.heap.size = g := by simpa [aQ, blk] using hg
  omega
theorem bs0 {α : Type} {τ : Ty α} {t e : TypeId} {m : Nat} {parts : List (Nat × Operand)} {vs : List (Nat × Value)} (hx : ze l parts = some vs)
    (hb : ∀ w, (Instr.buildSlice t m vs.toArray).run P w = .ok (.slice (some ⟨w.heap.size, 0, none⟩) m m) (w.alloc (.cells #[] e))) (hm : m = 0) (H : Hp b S w rs)
    (k : ∀ g w', Hp b S w' (aQ τ e (some ⟨g, 0, none⟩) 0 [] :: rs) → WL P n ops Q K os ((d, .slice (some ⟨g, 0, none⟩) ([] : List α).length 0) :: l) w') (hd : Nat.blt d n.size = true := by rfl) : WL P n ops Q K (⟨some d, .buildSlice t m parts.toArray, ty, pos, jI, none⟩ :: os) l w := by
  subst hm
  refine WL.buildSlice (k := τ.k) (cs := []) hx hb hd (by simp) fun w' ex hb' hz => k _ w' (H.new (r := aQ τ e (some ⟨w.heap.size, 0, none⟩) 0 []) ex (fun g hg => ?_) (hb'.Rk (Nat.zero_le _)))
  have : w.heap.size = g := by simpa [aQ, blk] using hg
  omega
def Yp {α : Type} (τ : Ty α) (S : Nat → Prop) (w : World) : List α → List (List Value) → Prop
  | [], [] => True
  | x :: xs, cs :: css => τ.R S w x cs ∧ Yp τ S w xs css
  | _, _ => False
theorem Yp.spec {α : Type} {τ : Ty α} {S : Nat → Prop} {w : World} : ∀ {xs : List α} {css : List (List Value)}, Yp τ S w xs css → css.length = xs.length ∧ css.flatten.length = xs.length * τ.k ∧ ∀ (i : Nat) (x : α), xs[i]? = some x → ∃ cs, css[i]? = some cs ∧ τ.R S w x cs
  | [], [], _ => ⟨rfl, by simp, fun i x h => by simp at h⟩
  | [], _ :: _, h => h.elim
  | _ :: _, [], h => h.elim
  | x :: xs, cs :: css, h => by
    obtain ⟨h1, h3, h2⟩ := h.2.spec
    have h4 := τ.len h.1
    refine ⟨by simp [h1], by simp [h3, h4, Nat.add_mul]; omega, fun i y hy => ?_⟩
    cases i with
    | zero => simp at hy; subst hy; exact ⟨cs, rfl, h.1⟩
    | succ i => simpa using h2 i y (by simpa using hy)
theorem X7 {α : Type} {τ : Ty α} {t e : TypeId} {m : Nat} {parts : List (Nat × Operand)} {vs : List (Nat × Value)} {css : List (List Value)} {xs : List α} (hx : ze l parts = some vs)
    (hb : ∀ w, (Instr.buildSlice t m vs.toArray).run P w = .ok (.slice (some ⟨w.heap.size, 0, none⟩) m m) (w.alloc (.cells css.flatten.toArray e))) (hm : m = xs.length) (hm1 : Nat.ble m 100000 = true) (H : Hp b S w rs) (hR : ∀ w', Ext w w' → Yp τ (Rd b S rs w) w' xs css)
    (k : ∀ g w', Hp b S w' (aQ τ e (some ⟨g, 0, none⟩) m xs :: rs) → WL P n ops Q K os ((d, .slice (some ⟨g, 0, none⟩) xs.length m) :: l) w') (hd : Nat.blt d n.size = true := by rfl) : WL P n ops Q K (⟨some d, .buildSlice t m parts.toArray, ty, pos, jI, none⟩ :: os) l w := by
  subst hm
  have hm2 : xs.length ≤ 100000 := Nat.le_of_ble_eq_true hm1
  obtain ⟨h1, h2, _⟩ := (hR w (Ext.refl w)).spec
  refine WL.buildSlice (k := τ.k) (cs := css.flatten) hx hb hd (by rw [h2]) fun w' ex hb' hz => k _ w' (H.new (r := aQ τ e (some ⟨w.heap.size, 0, none⟩) xs.length xs) ex (fun g hg => ?_) ?_)
  · have : w.heap.size = g := by simpa [aQ, blk] using hg
    omega
  · have h3 := (hR w' ex).spec
    refine ⟨css, h3.1, h3.2.2, ?_⟩
    exact ⟨h2, .inr ⟨w.heap.size, xs.length, css.flatten.toArray, Y, Nat.zero_le _, hb', Nat.le_refl _, by simp only [maxLen]; omega, by rw [List.size_toArray]; exact h2, by rw [← h2]; exact List.take_of_length_le (Nat.le_refl _)⟩⟩
theorem BK {t t' : TypeId} {x y : Operand} {g i : Nat} {v : Value} {cs : List Value} (hx : gF l x = some (.pointer (some ⟨g, i, none⟩))) (hy : gF l y = some v) (h1 : v.oneCell' = true) (hs : Size P t 1) (H : Hp b S w rs) (s : nS rs (dG g t' cs) rest) (hi : Nat.blt i cs.length = true)
    (k : ∀ w', Hp b S w' (dG g t' (cs.set i v) :: rest) → WL P n ops Q K os l w') : WL P n ops Q K (⟨none, .store t x y, ty, pos, jI, none⟩ :: os) l w :=
  WL.Rj hx hy h1 hs (H.x s) (by simpa [Nat.blt_eq] using hi) fun w' m hb hz => k w' ((H.sel s).put (r' := dG g t' (cs.set i v)) (Wr.Ui m rfl) (fun g hg => .inl hg) hb)
theorem iW {t t' : TypeId} {x y : Operand} {g : Nat} {v : Value} {cs ds : List Value} (hx : gF l x = some (.pointer (some ⟨g, 0, none⟩))) (hy : gF l y = some v) (hv : v.cells = ds.toArray) (hs : Size P t ds.length) (H : Hp b S w rs) (s : nS rs (dG g t' cs) rest) (hl : cs.length = ds.length) (h1 : ds.all (fun u => u.oneCell') = true)
    (k : ∀ w', Hp b S w' (dG g t' ds :: rest) → WL P n ops Q K os l w') : WL P n ops Q K (⟨none, .store t x y, ty, pos, jI, none⟩ :: os) l w :=
  WL.Ua hx hy hv hs (H.x s) hl (fun u hu => List.all_eq_true.1 h1 u hu) fun w' m hb hz => k w' ((H.sel s).put (r' := dG g t' ds) (Wr.Ui m rfl) (fun g hg => .inl hg) hb)
theorem Hp.own {α β : Type} {τ : Ty α} {τ' : Ty β} {e : TypeId} {A A' : an3} {c c' lo : Nat} {xs : List α} {ys : List β} {w' : World} (H : Hp b S w (aQ τ e A c xs :: rest)) (hg : yw w w' (blk A)) (hA : ∀ g, blk A' = some g → blk A = some g ∨ w.heap.size ≤ g)
    (h : Own τ' e lo (Rd b S (aQ τ e A c xs :: rest) w) w' A' c' ys) : Hp b S w' (aQ τ' e A' c' ys :: rest) :=
  H.put (r' := aQ τ' e A' c' ys) (Wr.kQ hg (fun g hX => hX)) (fun g hg' => by
    rcases hA g hg' with h1 | h1
    · exact .inl h1
    · exact .inr ⟨h1, (h.IC g hg').2⟩) (h.low (Nat.zero_le _) (fun _ hb => hb))
theorem Hp.KD {r : jP} (H : Hp b S w rs) (s : nS rs r rest) : ∀ g, r.W g → ¬ Rd b S rs w g := by
  have hm : r ∈ rs := s.perm.mem_iff.2 (by simp)
  rintro g hg (⟨h1, _⟩ | ⟨_, _, h3⟩)
  · have := (H.lo r hm g hg).1; omega
  · exact h3 r hm hg
theorem apd {α : Type} {τ : Ty α} {t e : TypeId} {bytes : Nat} {A B : an3} {c c2 : Nat} {xs ys : List α} {s x : Operand} (H : Hp b S w rs) (se : nS rs (aQ τ e A c xs) rest) (hs : Yo n l d s = some (.slice A xs.length c)) (hx : gF l x = some (.slice B ys.length c2))
    (hy : Sl τ (Rd b S rs w) w B c2 ys) (hT : P.underlying t = some (.slice e)) (hI : je P e τ.k bytes)
    (hm1 : xs.length ≤ 1000000) (hm2 : ys.length ≤ 1000000) (hby : Nat.ble bytes 1000 = true)
    (k : ∀ A' c' w', Hp b S w' (aQ τ e A' c' (xs ++ ys) :: rest) → WL P n ops Q K os ((d, .slice A' (xs ++ ys).length c') :: l) w') :
    WL P n ops Q K (⟨some d, .call ⟨.builtin .append, #[s, x], #[t, t]⟩, ty, pos, jI, none⟩ :: os) l w := by
  have H1 := H.sel se
  have hsub : ∀ g, Rd b S rs w g → Rd b S (aQ τ e A c xs :: rest) w g := Rd.perm se.perm
  refine WL.app (kY hs).2 hx (H1.ow s0) (hy.sub hsub) hT hI (fun _ _ _ h => h) (fun g hA => H1.KD s0 g hA) hm1 hm2 hby H1.ext.size (kY hs).1 fun A' c' w' ho hg hat => k A' c' w' (H1.own hg (fun g hg' => ?_) ho)
  rcases hat with hat | hat
  · exact .inl (hat ▸ hg')
  · rw [hat] at hg'; cases hg'; exact .inr (Nat.le_refl _)
theorem ap {α : Type} {τ : Ty α} [Flat τ] {t e : TypeId} {bytes : Nat} {A B : an3} {c c2 : Nat} {xs ys : List α} {s x : Operand} {S2 : Nat → Prop} (H : Hp b S w rs) (se : nS rs (aQ τ e A c xs) rest) (hs : Yo n l d s = some (.slice A xs.length c)) (hx : gF l x = some (.slice B ys.length c2))
    (hy : Sl τ S2 w B c2 ys) (hT : P.underlying t = some (.slice e)) (hI : je P e τ.k bytes)
    (hm1 : xs.length ≤ 1000000) (hm2 : ys.length ≤ 1000000) (hby : Nat.ble bytes 1000 = true)
    (k : ∀ A' c' w', Hp b S w' (aQ τ e A' c' (xs ++ ys) :: rest) → WL P n ops Q K os ((d, .slice A' (xs ++ ys).length c') :: l) w') :
    WL P n ops Q K (⟨some d, .call ⟨.builtin .append, #[s, x], #[t, t]⟩, ty, pos, jI, none⟩ :: os) l w := by
  have H1 := H.sel se
  refine WL.app (S2 := S2) (kY hs).2 hx (H1.ow s0) hy hT hI (fun _ _ _ h => Flat.h h) (fun g hA => H1.KD s0 g hA) hm1 hm2 hby H1.ext.size (kY hs).1 fun A' c' w' ho hg hat => k A' c' w' (H1.own hg (fun g hg' => ?_) ho)
  rcases hat with hat | hat
  · exact .inl (hat ▸ hg')
  · rw [hat] at hg'; cases hg'; exact .inr (Nat.le_refl _)
theorem apz {α : Type} (τ : Ty α) {t e ti : TypeId} {bytes m : Nat} {s x : Operand} (hs : Yo n l d s = some (.slice none 0 0)) (hx : gF l x = some (.int .i64 (m : Int))) (hT : P.underlying t = some (.slice e)) (hi : P.underlying ti = some (.int .i64)) (hI : je P e τ.k bytes) (h0 : 0 < m) (hm : m ≤ 1000000) (hby : Nat.ble bytes 1000 = true) (H : Hp b S w rs)
    (k : ∀ g c w', Hp b S w' (aQ τ e (some ⟨g, 0, none⟩) c [] :: rs) → WL P n ops Q K os ((d, .slice (some ⟨g, 0, none⟩) m c) :: l) w') :
    WL P n ops Q K (⟨some d, .call ⟨.builtin .append, #[s, x], #[t, ti]⟩, ty, pos, jI, none⟩ :: os) l w :=
  WL.Ku τ (kY hs).2 hx hT hi hI h0 hm hby (kY hs).1 fun g c w' ex ho => k g c w' (H.new (r := aQ τ e (some ⟨g, 0, none⟩) c []) ex (fun g' hg' => by
    have h1 := ho.IC g' hg'; omega) (ho.low (Nat.zero_le _) (fun _ h => h.elim)))
theorem se {α : Type} {τ : Ty α} {e t : TypeId} {f i c : Nat} {A : an3} {xs : List α} {x x' : α} {v : Value} {ds : List Value} {p y : Operand} {q : Addr} (H : Hp b S w rs) (s : nS rs (aQ τ e A c xs) rest) (hp : gF l p = some (.pointer (some q))) (hy : gF l y = some v) (hq : q = (vV A).add (i * τ.k + f))
    (hx : xs[i]? = some x) (hv : v.cells = ds.toArray) (hs : Size P t ds.length)
    (hf : f + ds.length ≤ τ.k) (h1 : ds.all (fun u => u.oneCell') = true) (hR : ∀ w' cs, (∀ {β : Type} {σ : Ty β} {B : an3} {d : Nat} {zs : List β}, Sl σ (Rd b S rs w) w B d zs → Sl σ (Rd b S rs w) w' B d zs) → τ.R (Rd b S rs w) w x cs → τ.R (Rd b S rs w) w' x' (overlay cs f ds))
    (kk : ∀ w', Hp b S w' (aQ τ e A c (xs.set i x') :: rest) → WL P n ops Q K os l w') : WL P n ops Q K (⟨none, .store t p y, ty, pos, jI, none⟩ :: os) l w := by
  have H1 := H.sel s
  have hsub : ∀ g, Rd b S rs w g → Rd b S (aQ τ e A c xs :: rest) w g := Rd.perm s.perm
  have ad6 : ∀ g, Rd b S (aQ τ e A c xs :: rest) w g → Rd b S rs w g := Rd.perm s.perm.symm
  refine WL.Ru (S := Rd b S (aQ τ e A c xs :: rest) w) hp hy hq (H1.ow s0) hx hv hs hf (fun u hu => List.all_eq_true.1 h1 u hu) (fun g hA => H1.KD s0 g hA) (fun w' cs hg hr => τ.sub hsub (hR w' cs ?_ (τ.sub ad6 hr))) fun w' ho hg hz => kk w' (H1.own hg (fun g hg' => .inl hg') ho)
  intro β σ B d zs hsl
  exact hsl.keep fun k hk hlt => hg.block k hlt fun e => H.KD s k e.symm hk
theorem Hp.IL {α : Type} {τ : Ty α} {e : TypeId} {A : an3} {c hi : Nat} {xs : List α} (H : Hp b S w rs) (s : nS rs (aQ τ e A c xs) rest) (h : hi ≤ xs.length) : Hp b S w (aQ τ e A c (xs.take hi) :: rest) :=
  (H.sel s).put (r' := aQ τ e A c (xs.take hi)) ⟨rfl, rfl, rfl, Nat.le_refl _, fun _ _ _ => rfl, Nat.le_refl _⟩ (fun g hg => .inl hg) (Own.take ((H.sel s).ok (aQ τ e A c xs) (by simp)) h)
theorem Sl.row {α : Type} {τ : Ty α} {A : an3} {c i : Nat} {xs : List α} {x : α} (h : Sl τ S w A c xs) (hx : xs[i]? = some x) : ∃ cs, τ.R S w x cs ∧ ∀ j u, cs[j]? = some u → w.cell? ((vV A).add (i * τ.k + j)) = some u := (h.rows i x hx).2
theorem Hp.oi {α : Type} {τ : Ty α} {e : TypeId} {A : an3} {c i : Nat} {xs : List α} {x : α} (H : Hp b S w rs) (s : nS rs (aQ τ e A c xs) rest) (hx : xs[i]? = some x) : ∃ cs, τ.R (Rd b S rs w) w x cs ∧ ∀ j u, cs[j]? = some u → w.cell? ((vV A).add (i * τ.k + j)) = some u := by
  obtain ⟨css, hl, hR, hown⟩ := H.ow s
  obtain ⟨cs, h1, h2⟩ := hR i x hx
  have hk := CW hl hR
  refine ⟨cs, h2, fun j u hu => ?_⟩
  rcases hown.2 with ⟨hv, hn⟩ | ⟨g, cap, cur, hv, hg, hh, hnc, hcm, hcs, ht⟩
  · have := aC hx; omega
  · injection hv with hA hn' hc
    subst hA hc
    exact hown.cells (g := g) Y _ _ (za css hk i cs h1 j u hu)
theorem Hp.is {α : Type} {τ : Ty α} {A : an3} {c i : Nat} {xs : List α} {x : α} (H : Hp b S w rs) (s : nS rs (fM τ A c xs) rest) (hx : xs[i]? = some x) : ∃ cs, τ.R (Rd b S rs w) w x cs ∧ ∀ j u, cs[j]? = some u → w.cell? ((vV A).add (i * τ.k + j)) = some u := (H.s s).row hx
theorem P8 {α : Type} {τ : Ty α} {a : Addr} {i : Nat} {xs : List α} (h : ∃ cs, (Ty.list τ).R S w xs cs ∧ ∀ j u, cs[j]? = some u → w.cell? (a.add (i * 1 + j)) = some u) :
    ∃ B d, w.cell? (a.add (i * 1)) = some (.slice B xs.length d) ∧ Sl τ S w B d xs := by
  obtain ⟨cs, ⟨B, d, rfl, h2⟩, h3⟩ := h
  exact ⟨B, d, h3 0 _ Y, h2⟩
theorem oJ {a : Addr} {i k : Nat} {cs : List Value} (h : ∀ j u, cs[j]? = some u → w.cell? (a.add (i * k + j)) = some u) : ∀ j u, cs[j]? = some u → w.cell? ((a.add (i * k)).add j) = some u := fun j u hu => by rw [bJ]; exact h j u hu
theorem Own.aaY {α : Type} {τ : Ty α} {e : TypeId} {lo g : Nat} {x : α} (h : Own τ e lo S w (some ⟨g, 0, none⟩) 1 [x]) : ∃ cs, Bx w g e cs ∧ τ.R S w x cs := by
  obtain ⟨css, hl, hR, hown⟩ := h
  obtain ⟨cs, h1, h2⟩ := hR 0 x rfl
  have h3 : css = [cs] := by
    cases css with
    | nil => simp at hl
    | cons c0 css => cases css with
      | nil => simp at h1; rw [h1]
      | cons _ _ => simp at hl
  subst h3
  have hk := τ.len h2
  rcases hown.2 with ⟨hv, _⟩ | ⟨g', cap, cur, hv, hg, hh, hnc, hcm, hcs, ht⟩
  · cases hv
  · injection hv with hA hn' hc
    injection hA with hA
    injection hA with hA
    subst hA hc
    refine ⟨cs, ?_, h2⟩
    have h4 : cur.toList = cs := by
      have h5 : cur.toList.length = τ.k := by simpa using hcs
      have h6 : cur.toList.take (1 * τ.k) = cs := by simpa using ht
      rw [List.take_of_length_le (by omega)] at h6
      exact h6
    unfold Bx
    rw [hh, ← h4]
theorem Hp.aaZ {α β : Type} {τ : Ty α} {σ : Ty β} {e e' : TypeId} {A B : an3} {c c' : Nat} {xs : List α} {ys : List β} {sW : List jP} (H : Hp b S w rs) (s : nS rs (aQ τ e A c xs) rest) (s' : nS rest (aQ σ e' B c' ys) sW) {g : Nat} (hg : blk B = some g) : blk A ≠ some g :=
  fun h => (List.pairwise_cons.1 (H.sel s).PW).1 (aQ σ e' B c' ys) (s'.perm.mem_iff.2 (by simp)) g h hg
theorem Hp.raw {α : Type} {τ : Ty α} {e : TypeId} {A : an3} {c : Nat} {xs : List α} (H : Hp b S w rs) (s : nS rs (aQ τ e A c xs) rest) : ∃ us : List (Cells τ.k), Own (oF τ.k τ.pos) e b.heap.size No w A c us ∧ Rel τ (Rd b S rs w) w xs us := (H.ow s).raw
theorem Hp.back {α β : Type} {τ : Ty α} {e : TypeId} {A A' : an3} {c c' lo : Nat} {xs ys : List α} {vs : List (Cells τ.k)} {w' : World} {S' : Nat → Prop} (H : Hp b S w rs) (s : nS rs (aQ τ e A c xs) rest) (hO : Own (oF τ.k τ.pos) e lo S' w' A' c' vs) (hr : Rel τ (Rd b S rs w) w ys vs) (hg : yw w w' (blk A)) (hA : ∀ g, blk A' = some g → blk A = some g ∨ w.heap.size ≤ g) : Hp b S w' (aQ τ e A' c' ys :: rest) := by
  have hsub : ∀ g, Rd b S rs w g → Rd b S (aQ τ e A c xs :: rest) w g := Rd.perm s.perm
  exact (H.sel s).own hg hA (hO.ofRaw ((hr.sub hsub).grown hg (fun g hA => (H.sel s).KD s0 g hA)))
theorem WH.tk {rk : List jP} {fuel : Nat} {listed : Array Bool} (i : Nat) {op : Op} {d : Nat} {v : Value} (hi : ops[i]? = some ⟨some d, op, ty, pos, jI, none⟩) (hs : Region.noSelect ops = true) (hf : Region.free .any ops listed i = true)
    (hr : (Region.ready .any ops listed).contains i = true) (he : ∀ w', Hp b S w' rk → Ev P n l w' op v) (hd : Nat.blt d n.size = true) (hw : Hp b S w rk) (k : WH P n ops K (fun w' => Hp b S w' rk) fuel (listed.setIfInBounds i true) ((d, v) :: l) w) :
    WH P n ops K (fun w' => Hp b S w' rk) (fuel + 1) listed l w := fun a ha =>
  wpAnyH_take hi hs hf hr (fun _ _ _ h => h) (.inl ⟨dY a, fun w' hw' => he w' hw' _ a w' rfl ha (Ext.refl w')⟩) hw (k _ (ha.put hd v))
theorem WH.tkg {rk : List jP} {fuel : Nat} {listed : Array Bool} (i : Nat) {op : Op} {d j : Nat} {aJ : Bool} {v : Value} (hi : ops[i]? = some ⟨some d, op, ty, pos, jI, some (j, aJ)⟩) (hg : guardOf ops l j = some (.bool aJ)) (hs : Region.noSelect ops = true) (hf : Region.free .any ops listed i = true)
    (hr : (Region.ready .any ops listed).contains i = true) (he : ∀ w', Hp b S w' rk → Ev P n l w' op v) (hd : Nat.blt d n.size = true) (hw : Hp b S w rk) (k : WH P n ops K (fun w' => Hp b S w' rk) fuel (listed.setIfInBounds i true) ((d, v) :: l) w) :
    WH P n ops K (fun w' => Hp b S w' rk) (fuel + 1) listed l w := fun a ha =>
  wpAnyH_take hi hs hf hr (fun _ _ _ h => h) (.inl ⟨lK hg a ha, fun w' hw' => he w' hw' _ a w' rfl ha (Ext.refl w')⟩) hw (k _ (ha.put hd v))
end
end Go.Proofs.YtjcklpooaaaglaaGreat
