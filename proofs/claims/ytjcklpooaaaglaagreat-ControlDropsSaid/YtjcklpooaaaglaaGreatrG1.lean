/- Regions that draw their order, walked in every order; numbers as floats; calls of what came in. -/
import Derived.OrdersHeld
import Derived.Laws.CopyRow
import Derived.Laws.IdiomCopy
import Derived.Lib.Overlaps
import Derived.Lib.AppendZerosOnto
import Derived.Test.YtjcklpooaaaglaaGreatrG0
set_option linter.all false
namespace Go.Proofs.YtjcklpooaaaglaaGreat
open Go.RowKit

/-! ### a region that draws: whatever order -/
def Only (K : Act → World → Prop) : Exit → Act → World → Prop
  | .normal, a, w => K a w
  | _, _, _ => False
/-- whatever order is picked from here on; S holds behind each operation -/
def WH (P : Program) (n : Cx) (ops : Array Oper) (K : Act → World → Prop) (S : World → Prop) (fuel : Nat) (listed : Array Bool) (l : List (Nat × Value)) (w : World) : Prop :=
  ∀ a, Has n l a → wpAnyH P .any ops (Only K) S fuel listed a w
def HK (P : Program) (ops : Array Oper) (K : Act → World → Prop) (S : World → Prop) (fuel : Nat) (listed : Array Bool) : Act → World → Prop :=
  fun a w => S w ∧ wpAnyH P .any ops (Only K) S fuel listed a w
/-- what the region comes to -/
def JK (n : Cx) (J : List (Nat × Value) → World → Prop) : Act → World → Prop := fun a w => ∃ l, Has n l a ∧ J l w

section
variable {P : Program} {n : Cx} {l l' : List (Nat × Value)} {w w' : World} {Q : Exit → Act → World → Prop} {K : Act → World → Prop} {ops : Array Oper} {S : World → Prop} {fuel : Nat} {listed : Array Bool}

theorem WP.held {ol : List Oper} {id : Nat} {y : Code} (S : World → Prop) (J : List (Nat × Value) → World → Prop) (hm : P.follows .mixedOrders = true)
    (h : WH P n ol.toArray (JK n J) S ol.length (List.replicate ol.length false).toArray l w.drew) (k : ∀ l' w', J l' w' → WP P n y l' w' Q) (hro : n.round = none := by rfl) : WP P n (.seq (.region id ol.toArray true) y) l w Q := fun a ha => by
  refine wpIn_seq ?_
  have e : n.fence = Fence.wide := Cx.fence_wide hro
  suffices hx : (Code.region id ol.toArray true).wp P (Exit.then (cwp P n y Q) Q) a w by
    show (Code.region id ol.toArray true).wpIn n.fence 0 P (Exit.then (cwp P n y Q) Q) a w
    rw [e]
    exact wpIn_wide.2 hx
  refine wp_mono (wp_region_held (Q := Only (JK n J)) (S := S) hm ?_) ?_
  · have := h a ha
    simpa using this
  · intro e a' w' hq
    cases e with
    | normal => obtain ⟨l', h1, h2⟩ := hq; exact k l' w' h2 a' h1
    | _ => exact hq.elim
theorem WP.held_end {ol : List Oper} {id : Nat} (S : World → Prop) (J : List (Nat × Value) → World → Prop) (hm : P.follows .mixedOrders = true)
    (h : WH P n ol.toArray (JK n J) S ol.length (List.replicate ol.length false).toArray l w.drew) (k : ∀ l' w', J l' w' → Pst n Q .normal l' w') (hro : n.round = none := by rfl) : WP P n (.region id ol.toArray true) l w Q := fun a ha => by
  rw [Cx.fence_wide hro]
  refine wpIn_wide.2 ?_
  refine wp_mono (wp_region_held (Q := Only (JK n J)) (S := S) hm ?_) ?_
  · have := h a ha
    simpa using this
  · intro e a' w' hq
    cases e with
    | normal => obtain ⟨l', h1, h2⟩ := hq; exact k l' w' h2 a' h1
    | _ => exact hq.elim
theorem WH.done {J : List (Nat × Value) → World → Prop} (l' : List (Nat × Value)) (hr : Region.ready .any ops listed = []) (hs : Subs l l') (hJ : J l' w) : WH P n ops (JK n J) S fuel listed l w :=
  fun _ ha => wpAnyH_done hr ⟨l', ha.subs hs, hJ⟩ fuel
/-- an operation that only reads is taken first -/
theorem WH.take {w0 : World} (i : Nat) {op : Op} {ty : TypeId} {pos : String} {aft : Array Edge} {d : Nat} {v : Value} (hi : ops[i]? = some ⟨some d, op, ty, pos, aft, none⟩) (hs : Region.noSelect ops = true) (hf : Region.free .any ops listed i = true)
    (hr : (Region.ready .any ops listed).contains i = true) (he : Ev P n l w0 op v) (hd : Nat.blt d n.size = true) (hw : Ext w0 w) (k : WH P n ops K (fun w' => Ext w0 w') fuel (listed.setIfInBounds i true) ((d, v) :: l) w) :
    WH P n ops K (fun w' => Ext w0 w') (fuel + 1) listed l w := fun a ha =>
  wpAnyH_take hi hs hf hr (fun _ _ _ h => h) (.inl ⟨wanted_none a, fun w' hw' => he _ a w' rfl ha hw'⟩) hw (k _ (ha.put hd v))
/-- whichever may come up -/
theorem WH.all {rs : List Nat} (hr : Region.ready .any ops listed = rs) (hne : rs ≠ [])
    (h : ∀ i ∈ rs, ∃ o, ops[i]? = some o ∧ WL P n.asPlain ops (Only K) (HK P ops K S fuel (listed.setIfInBounds i true)) [o] l w) : WH P n ops K S (fuel + 1) listed l w := fun a ha =>
  wpAnyH_all hr hne fun i hi => by
    obtain ⟨o, ho, hk⟩ := h i hi
    have h1 := hk a ⟨ha.defers, ha.size, ha.get⟩
    unfold wpK at h1
    unfold wpOp
    rw [ho]
    show (if Region.wanted o (yielded ops a.tmps) then _ else _)
    split
    · rename_i hw
      rw [if_pos hw] at h1
      exact .inl h1
    · rename_i hw
      rw [if_neg hw] at h1
      exact h1
theorem WH.next (hS : S w) (h : WH P n ops K S fuel listed l w) : WL P n.asPlain ops (Only K) (HK P ops K S fuel listed) [] l w := fun a ha => ⟨hS, h a ⟨ha.defers, ha.size, ha.get⟩⟩
end

/-! ### structs held against each other -/
section
variable {P : Program} {n : Cx} {l : List (Nat × Value)} {w : World} {t ty : TypeId} {x y : Operand}
theorem Ev.neS {xs ys : Array Value} {b : Bool} (hx : evl l x = some (.agg xs)) (hy : evl l y = some (.agg ys)) (heq : ∀ w, (Op.equalIn 10000 t (.agg xs) (.agg ys)).run P w = .ok b w) (hm : P.eqGuardType P.depth t = false) : Ev P n l w (.binOp .neq t x y ty) (.bool (!b)) := fun o a w' ho ha _ => by
  unfold execOp; rw [ho]
  simp [ha.eval hx, ha.eval hy, run_eqGuard_agg w' .neq t x y xs ys hm, run_neq_struct, heq]
end

/-! ### make by append -/
section
variable {P : Program} {n : Cx} {l : List (Nat × Value)} {w : World} {Q : Exit → Act → World → Prop} {K : Act → World → Prop} {ops : Array Oper} {os : List Oper} {ty : TypeId} {pos : String} {aft : Array Edge} {d : Nat}
/-- 'append(nil[:0], make([]T, n)...)', cut back to nothing: an own row with room -/
theorem run_append_zeros {α : Type} (τ : Ty α) {t e ti : TypeId} {bytes : Nat} (hT : P.underlying t = some (.slice e)) (hi : P.underlying ti = some (.int .i64)) (hI : ElemInfo P e τ.k bytes) (m : Nat) (h0 : 0 < m) (hm : m ≤ 1000000) (hby : Nat.ble bytes 1000 = true) (r : TypeId) :
    ∃ g c w', (Builtin.append_ #[t, ti] r #[.slice none 0 0, .int .i64 (m : Int)]).run P w = .ok (.slice (some ⟨g, 0, none⟩) m c) w' ∧ Ext w w' ∧ Own τ e w.heap.size No w' (some ⟨g, 0, none⟩) c [] := by
  obtain ⟨i, z, h1, h2, h3, h4, h5⟩ := hI.ex
  have hb : bytes ≤ 1000 := Nat.le_of_ble_eq_true hby
  have hw : IntKind.i64.wrap (m : Int) = (m : Int) := (I64.mk (by omega) (by omega)).wrap
  have hmb : m * bytes ≤ 1000000 * 1000 := Nat.mul_le_mul hm hb
  have hmb' : (m : Int) * (bytes : Int) ≤ 1000000000 := by
    have : ((m * bytes : Nat) : Int) ≤ 1000000000 := by omega
    rwa [Int.natCast_mul] at this
  have hnx : Builtin.nextslicecap m 0 = m := nextslicecap_zero h0
  have hz1 : z.cells.size = τ.k := h5
  refine ⟨w.heap.size, grownCap w m 0 e, (w.drew).alloc (.cells ((#[] : Array Value) ++ Builtin.zeroCells z.cells m ++ Builtin.zeroCells z.cells (grownCap w m 0 e - m)) e), ?_, ?_, ?_⟩
  · have hcond : ¬ (m : Int) * (bytes : Int) > 2 ^ 48 := by omega
    have hcond2 : ¬ m * bytes > 2 ^ 48 := by omega
    have hf : (Question.appendCap m 0 e).forced = false := rfl
    have hne : ¬ m * τ.k = 0 := by
      have := τ.pos
      intro h
      rcases Nat.mul_eq_zero.1 h with h | h <;> omega
    have hmx : ¬ (IntKind.i64.max < (m : Int)) := by
      have e2 : IntKind.i64.max = 9223372036854775807 := by decide
      omega
    simp [Builtin.append_, run_underlying hT, run_underlying hi, sizeOf, typeInfo, h1, h2, h3, h4, asInt, asIntOf, hw, zeroValue, Builtin.firstCells, newRow, hne, hf, hnx, hcond2, hmx]
    have hm0 : ¬ (m : Int) < 0 := by omega
    have hm1 : ¬ (281474976710656 < (m : Int) * (bytes : Int)) := by omega
    have hm2 : ¬ (m ≤ 0) := by omega
    have hm3 : ¬ (m = 0) := by omega
    have hm4 : ¬ (281474976710656 < m * bytes) := by omega
    have hm5 : ¬ (9223372036854775807 < (m : Int)) := by omega
    simp [hm0, hm1, hm2, hm3, hm4, hm5, grownCap]
  · exact ⟨rfl, rfl, rfl, by simp, fun k hk => Below.heap_alloc w.drew _ k hk, Nat.le_succ _⟩
  · have hge := grownCap_ge w m 0 e
    have hle := grownCap_le_maxLen w m 0 e (by simp only [maxLen]; omega)
    refine ⟨[], rfl, fun i x hx => by simp at hx, by simp, .inr ⟨w.heap.size, _, _, rfl, Nat.le_refl _, heap_alloc_new w.drew _, Nat.zero_le _, hle, ?_, by simp⟩⟩
    simp only [Array.size_append, List.size_toArray, List.length_nil, Nat.zero_add, size_zeroCells, hz1, ← Nat.add_mul]
    congr 1
    omega
theorem WL.appendZeros {α : Type} (τ : Ty α) {t e ti : TypeId} {bytes m : Nat} {s x : Operand} (hs : evl l s = some (.slice none 0 0)) (hx : evl l x = some (.int .i64 (m : Int))) (hT : P.underlying t = some (.slice e)) (hi : P.underlying ti = some (.int .i64)) (hI : ElemInfo P e τ.k bytes) (h0 : 0 < m) (hm : m ≤ 1000000) (hby : Nat.ble bytes 1000 = true) (hd : Nat.blt d n.size = true)
    (k : ∀ g c w', Ext w w' → Own τ e w.heap.size No w' (some ⟨g, 0, none⟩) c [] → WL P n ops Q K os ((d, .slice (some ⟨g, 0, none⟩) m c) :: l) w') :
    WL P n ops Q K (⟨some d, .call ⟨.builtin .append, #[s, x], #[t, ti]⟩, ty, pos, aft, none⟩ :: os) l w := by
  obtain ⟨g, c, w', hrun, h1, h2⟩ := run_append_zeros (P := P) (w := w) τ hT hi hI m h0 hm hby ty
  refine WL.val (v := .slice (some ⟨g, 0, none⟩) m c) (fun a _ => wanted_none a) rfl hd (R := fun w2 => w2 = w') (fun a ha => ⟨w', ?_, rfl⟩) fun w2 e => by rw [e]; exact k g c w' h1 h2
  unfold execOp
  simp only [resolve, Sem.run_bind, Sem.run_pure, Result.andThen_ok, invoke, builtin, List.map_toArray, List.map_cons, List.map_nil, ha.eval hs, ha.eval hx, hrun]
end

/-! ### labels -/
def AnyJ (n : Cx) (J : Nat → List (Nat × Value) → World → Prop) (a : Act) (w : World) : Prop := ∃ m l, Has n l a ∧ J m l w
section
variable {P : Program} {n : Cx} {l : List (Nat × Value)} {w : World} {Q : Exit → Act → World → Prop}
theorem jump_mono {c : Code} {lb : Nat} {a : Act} {R R' : Act → World → Prop} (h : c.wpIn n.fence 0 P (Exit.jump lb R Q) a w) (hr : ∀ a w, R a w → R' a w) : c.wpIn n.fence 0 P (Exit.jump lb R' Q) a w := by
  refine wpIn_mono h ?_
  intro e a' w' hq
  cases e with
  | goto l' => exact ⟨hq.1, hr _ _ hq.2⟩
  | _ => exact hq
theorem WP.jumps {c rest : Code} {lb : Nat} (J : Nat → List (Nat × Value) → World → Prop) (hf : findLabel c lb = some (.seq .skip rest))
    (pass : ∀ m l w, J m l w → WP P n rest l w (Exit.jump lb (Again n J m) Q))
    (first : (∀ m l w, J m l w → WP P n (.seq (.label lb) rest) l w (Exit.jump lb (AnyJ n J) Q)) → WP P n c l w (Exit.jump lb (AnyJ n J) Q)) (hro : n.round = none := by rfl) : WP P n (.scope c) l w Q := by
  intro a ha
  have e : n.fence = Fence.wide := Cx.fence_wide hro
  rw [e]
  refine wpIn_wide.2 ?_
  refine wp_scope_jumps lb (AnyJ n J) (fun a w => leastOf fun m => ∃ l, Has n l a ∧ J m l w) hf ?_ ?_
  · have h1 := first ?_ a ha
    · rw [e] at h1; exact wpIn_wide.1 h1
    · intro m l w hJ a ha
      refine wpIn_seq (wpIn_label ?_)
      exact jump_mono (pass m l w hJ a ha) fun a w ⟨m', l', _, h1, h2⟩ => ⟨m', l', h1, h2⟩
  · intro a w hJ
    obtain ⟨⟨l, h1, h2⟩, _⟩ := leastOf_spec (p := fun m => ∃ l, Has n l a ∧ J m l w) hJ
    refine wp_seq (wp_skip ?_)
    have h6 := pass _ l w h2 a h1
    rw [e] at h6
    refine wp_mono (wpIn_wide.1 h6) ?_
    intro e' a' w' hq
    cases e' with
    | goto l' =>
      refine ⟨hq.1, ?_⟩
      obtain ⟨m', l', hlt, h3, h4⟩ := hq.2
      exact ⟨⟨m', l', h3, h4⟩, Nat.lt_of_le_of_lt ((leastOf_spec (p := fun m => ∃ l, Has n l a' ∧ J m l w') ⟨m', l', h3, h4⟩).2 m' ⟨l', h3, h4⟩) hlt⟩
    | _ => exact hq
theorem Pst.jump_ret {lb : Nat} {R : Act → World → Prop} (h : Pst n Q .ret l w) : Pst n (Exit.jump lb R Q) .ret l w := fun a ha => h a ha
theorem Pst.jump_norm {lb : Nat} {R : Act → World → Prop} (h : Pst n Q .normal l w) : Pst n (Exit.jump lb R Q) .normal l w := fun a ha => h a ha
theorem WP.goto {i : Nat} (h : Pst n Q (.goto i) l w) : WP P n (.goto i) l w Q := fun a ha => wpIn_goto (h a ha)
end

/-! ### rows of slices; cuts -/
/-- an element that is itself a slice -/
def Ty.list {α : Type} (τ : Ty α) : Ty (List α) where
  k := 1
  pos := by decide
  R := fun S w xs cs => ∃ A c, cs = [.slice A xs.length c] ∧ Sl τ S w A c xs
  len := fun ⟨A, c, h, _⟩ => by rw [h]; rfl
  one := fun ⟨A, c, h, _⟩ => by rw [h]; intro u hu; simp at hu; rw [hu]; rfl
  keep := fun m ⟨A, c, h, hs⟩ => ⟨A, c, h, hs.keep m⟩
  sub := fun hS ⟨A, c, h, hs⟩ => ⟨A, c, h, hs.sub hS⟩
  bd := fun ⟨A, c, h, hs⟩ => ⟨A, c, h, hs.bd⟩
/-- where a slice that is cut at lo begins -/
def cutA (A : Option Addr) (c lo k : Nat) : Option Addr := if c = lo then A else A.map (·.add (lo * k))
theorem cutA_zero (A : Option Addr) (c k : Nat) : cutA A c 0 k = A := by
  unfold cutA
  split
  · rfl
  · cases A <;> simp [Addr.add_zero']
theorem Sl.cut {α : Type} {τ : Ty α} {S : Nat → Prop} {w : World} {A : Option Addr} {c : Nat} {xs : List α} (h : Sl τ S w A c xs) {lo hi : Nat} (h1 : lo ≤ hi) (h2 : hi ≤ xs.length) : Sl τ S w (cutA A c lo τ.k) (c - lo) ((xs.take hi).drop lo) := by
  have hc := h.cap
  refine ⟨by simp only [List.length_drop, List.length_take]; omega, by have := h.max; omega, ?_, ?_⟩
  · intro hn
    unfold cutA at hn
    split at hn
    · omega
    · have := h.nil (by simpa using hn); omega
  · intro i x hx
    rw [List.getElem?_drop, List.getElem?_take] at hx
    split at hx
    · rename_i hlt
      obtain ⟨hS, cs, hR, hcs⟩ := h.rows _ x hx
      have hA := h.some_ hx
      have hne : ¬ c = lo := by omega
      have ha : adr (cutA A c lo τ.k) = (adr A).add (lo * τ.k) := by
        unfold cutA
        rw [if_neg hne, hA]
        simp [adr]
      rw [ha, block_of_add]
      refine ⟨hS, cs, hR, fun j u hu => ?_⟩
      rw [add_of_add]
      have := hcs j u hu
      rwa [show (lo + i) * τ.k + j = lo * τ.k + (i * τ.k + j) from by rw [Nat.add_mul]; omega] at this
    · cases hx
theorem Sl.cutTo {α : Type} {τ : Ty α} {S : Nat → Prop} {w : World} {A : Option Addr} {c : Nat} {xs : List α} (h : Sl τ S w A c xs) {hi : Nat} (h2 : hi ≤ xs.length) : Sl τ S w A c (xs.take hi) := by
  have := h.cut (lo := 0) (Nat.zero_le _) h2
  rwa [cutA_zero, Nat.sub_zero, List.drop_zero] at this
theorem Sl.cutFrom {α : Type} {τ : Ty α} {S : Nat → Prop} {w : World} {A : Option Addr} {c : Nat} {xs : List α} (h : Sl τ S w A c xs) {lo : Nat} (h1 : lo ≤ xs.length) : Sl τ S w (cutA A c lo τ.k) (c - lo) (xs.drop lo) := by
  have := h.cut h1 (Nat.le_refl _)
  rwa [List.take_length] at this
theorem Own.take {α : Type} {τ : Ty α} {e : TypeId} {lo : Nat} {S : Nat → Prop} {w : World} {A : Option Addr} {c : Nat} {xs : List α} (h : Own τ e lo S w A c xs) {hi : Nat} (h2 : hi ≤ xs.length) : Own τ e lo S w A c (xs.take hi) := by
  obtain ⟨css, hl, hR, hown⟩ := h
  have hk := css_len hl hR
  have hlen : (xs.take hi).length = hi := by simp only [List.length_take]; omega
  have hflat : ∀ (cs : List (List Value)) (m : Nat), (∀ c ∈ cs, c.length = τ.k) → (cs.take m).flatten = cs.flatten.take (m * τ.k) := by
    intro cs
    induction cs with
    | nil => intro m _; simp
    | cons c0 cs ih =>
      intro m hm
      cases m with
      | zero => simp
      | succ m =>
        have h0 := hm c0 (by simp)
        have e1 : c0.take ((m + 1) * τ.k) = c0 := List.take_of_length_le (by rw [h0, Nat.add_mul]; omega)
        have e2 : (m + 1) * τ.k - τ.k = m * τ.k := by rw [Nat.add_mul]; omega
        rw [List.take_succ_cons, List.flatten_cons, List.flatten_cons, ih m (fun c hc => hm c (by simp [hc])), List.take_append, e1, h0, e2]
  refine ⟨css.take hi, by simp only [List.length_take, hl], fun i x hx => ?_, ?_⟩
  · rw [List.getElem?_take] at hx
    split at hx
    · rename_i hlt
      obtain ⟨cs, h3, h4⟩ := hR i x hx
      exact ⟨cs, by rw [List.getElem?_take, if_pos hlt]; exact h3, h4⟩
    · cases hx
  · rw [hlen]
    refine ⟨?_, ?_⟩
    · rw [hflat css hi hk, List.length_take, hown.1]
      exact Nat.min_eq_left (Nat.mul_le_mul_right _ h2)
    · rcases hown.2 with ⟨hv, hn⟩ | ⟨g, cap, cur, hv, hg, hh, hnc, hcm, hcs, ht⟩
      · left
        injection hv with hA hn' hc
        subst hA hc
        have : hi = 0 := by omega
        subst this
        exact ⟨rfl, rfl⟩
      · right
        injection hv with hA hn' hc
        subst hA hc
        refine ⟨g, c, cur, rfl, hg, hh, by omega, hcm, hcs, ?_⟩
        rw [hflat css hi hk, ← ht, List.take_take, Nat.min_eq_left (Nat.mul_le_mul_right _ h2)]
section
variable {P : Program} {n : Cx} {l : List (Nat × Value)} {w : World} {t e : TypeId} {x : Operand}
theorem Ev.cut {α : Type} {k : Nat} {A : Option Addr} {c lo hi : Nat} {xs : List α} {kl kh : IntKind} {zl zh : Int} {yl yh : Operand} (hu : P.underlying t = some (.slice e)) (hs : Size P e k) (hx : evl l x = some (.slice A xs.length c)) (hl : evl l yl = some (.int kl zl)) (hh : evl l yh = some (.int kh zh))
    (h1 : zl = (lo : Int)) (h2 : zh = (hi : Int)) (h3 : lo ≤ hi) (h4 : hi ≤ xs.length) (h5 : xs.length ≤ c) : Ev P n l w (.slice t x (some yl) (some yh) none) (.slice (cutA A c lo k) ((xs.take hi).drop lo).length (c - lo)) := fun o a w' ho ha _ => by
  have hlen : ((xs.take hi).drop lo).length = hi - lo := by simp only [List.length_drop, List.length_take]; omega
  unfold execOp; rw [ho]
  have h6 : (Instr.sliceAt t (.slice A xs.length c) (some (.int kl zl)) (some (.int kh zh)) none).run P w' = .ok (.slice (cutA A c lo k) (hi - lo) (c - lo)) w' := by
    rw [run_sliceAt_slice w' t _ _ _ _ (elem_of hu), run_slice_lh w' t A xs.length c (elem_of hu) kl kh zl zh (by omega) (by omega) (by omega), elem_is hu, hs w', h1, h2]
    simp [sliced, cutA]
  simp [ha.eval hx, ha.eval hl, ha.eval hh, h6, hlen]
theorem Ev.cutTo {α : Type} {k : Nat} {A : Option Addr} {c hi : Nat} {xs : List α} {kh : IntKind} {zh : Int} {yh : Operand} (hu : P.underlying t = some (.slice e)) (hs : Size P e k) (hx : evl l x = some (.slice A xs.length c)) (hh : evl l yh = some (.int kh zh))
    (h2 : zh = (hi : Int)) (h4 : hi ≤ xs.length) (h5 : xs.length ≤ c) : Ev P n l w (.slice t x none (some yh) none) (.slice A (xs.take hi).length c) := fun o a w' ho ha _ => by
  have hlen : (xs.take hi).length = hi := by simp only [List.length_take]; omega
  have hcz := cutA_zero A c k
  unfold cutA at hcz
  unfold execOp; rw [ho]
  have h6 : (Instr.sliceAt t (.slice A xs.length c) none (some (.int kh zh)) none).run P w' = .ok (.slice A hi c) w' := by
    rw [run_sliceAt_slice w' t _ _ _ _ (elem_of hu), run_slice_h w' t A xs.length c (elem_of hu) kh zh (by omega) (by omega), elem_is hu, hs w', h2]
    simp only [Result.andThen_ok, sliced, Int.toNat_natCast, Nat.sub_zero]
    rw [hcz]
  simp [ha.eval hx, ha.eval hh, h6, hlen]
/-- 's[:0]' -/
theorem Ev.cutZero {k : Nat} {A : Option Addr} {m c : Nat} {kh : IntKind} {zh : Int} {yh : Operand} (hu : P.underlying t = some (.slice e)) (hs : Size P e k) (hx : evl l x = some (.slice A m c)) (hh : evl l yh = some (.int kh zh)) (h2 : zh = 0) : Ev P n l w (.slice t x none (some yh) none) (.slice A 0 c) := fun o a w' ho ha _ => by
  have hcz := cutA_zero A c k
  unfold cutA at hcz
  unfold execOp; rw [ho]
  have h6 : (Instr.sliceAt t (.slice A m c) none (some (.int kh zh)) none).run P w' = .ok (.slice A 0 c) w' := by
    rw [run_sliceAt_slice w' t _ _ _ _ (elem_of hu), run_slice_h w' t A m c (elem_of hu) kh zh (by omega) (by omega), elem_is hu, hs w', h2]
    simp only [Result.andThen_ok, sliced, Int.toNat_zero, Nat.sub_zero]
    rw [hcz]
  simp [ha.eval hx, ha.eval hh, h6]
theorem Ev.cutFrom {α : Type} {k : Nat} {A : Option Addr} {c lo : Nat} {xs : List α} {kl : IntKind} {zl : Int} {yl : Operand} (hu : P.underlying t = some (.slice e)) (hs : Size P e k) (hx : evl l x = some (.slice A xs.length c)) (hl : evl l yl = some (.int kl zl))
    (h1 : zl = (lo : Int)) (h3 : lo ≤ xs.length) (h5 : xs.length ≤ c) : Ev P n l w (.slice t x (some yl) none none) (.slice (cutA A c lo k) (xs.drop lo).length (c - lo)) := fun o a w' ho ha _ => by
  have hlen : (xs.drop lo).length = xs.length - lo := by simp only [List.length_drop]
  unfold execOp; rw [ho]
  have h6 : (Instr.sliceAt t (.slice A xs.length c) (some (.int kl zl)) none none).run P w' = .ok (.slice (cutA A c lo k) (xs.length - lo) (c - lo)) w' := by
    rw [run_sliceAt_slice w' t _ _ _ _ (elem_of hu), run_slice_l w' t A xs.length c (elem_of hu) kl zl (by omega) (by omega), elem_is hu, hs w', h1]
    simp [sliced, cutA]
  simp [ha.eval hx, ha.eval hl, h6, hlen]
end

/-! ### counts as floats -/
theorem fb_zero : FloatKind.f64.nearest 0 = 0 := by decide +kernel
def fb (n : Nat) : Nat := FloatKind.f64.nearest (n : Int)
theorem fb_add1 : ∀ n, n < 130 → FloatKind.f64.format.add (fb n) 4607182418800017408 = some (fb (n + 1)) := by decide +kernel
theorem fb_add0 : ∀ n, n < 130 → FloatKind.f64.format.add (fb n) 0 = some (fb n) := by decide +kernel
theorem fb_int : ∀ n, n < 130 → (FloatKind.f64.decode (fb n)).toInt .zero = some (n : Int) := by decide +kernel
theorem fb_geq : ∀ n, n < 70 → ∀ m, m < 70 → ((FloatKind.f64.format.order (fb n) (fb m) == some .gt || FloatKind.f64.format.order (fb n) (fb m) == some .eq) = decide (m ≤ n)) := by decide +kernel

section
variable {P : Program} {n : Cx} {l : List (Nat × Value)} {w : World} {t ty : TypeId} {x y : Operand}
theorem Ev.cadd {a b c d e f : Nat} (hx : evl l x = some (.complex .f64 a b)) (hy : evl l y = some (.complex .f64 c d)) (h1 : FloatKind.f64.format.add a c = some e) (h2 : FloatKind.f64.format.add b d = some f) : Ev P n l w (.binOp .add t x y ty) (.complex .f64 e f) :=
  Ev.binop hx hy (eqGuard_at_complex ..) fun w => by
    simp [binOp, Op.complexOp, Op.Complex.arith, Op.floatArith, h1, h2]
theorem Ev.real {a b : Nat} {ts : Array TypeId} (hx : evl l x = some (.complex .f64 a b)) : Ev P n l w (.call ⟨.builtin .real, #[x], ts⟩) (.float .f64 a) := fun o ac w' ho ha _ => by
  unfold execOp; rw [ho]
  simp only [resolve, Sem.run_bind, Sem.run_pure, Result.andThen_ok, invoke, builtin, List.map_toArray, List.map_cons, List.map_nil, ha.eval hx]
  rfl
theorem Ev.imag {a b : Nat} {ts : Array TypeId} (hx : evl l x = some (.complex .f64 a b)) : Ev P n l w (.call ⟨.builtin .imag, #[x], ts⟩) (.float .f64 b) := fun o ac w' ho ha _ => by
  unfold execOp; rw [ho]
  simp only [resolve, Sem.run_bind, Sem.run_pure, Result.andThen_ok, invoke, builtin, List.map_toArray, List.map_cons, List.map_nil, ha.eval hx]
  rfl
theorem Ev.ftoi {d : TypeId} {a m : Nat} (hs : ∃ k, P.underlying t = some k) (hd : P.underlying d = some (.int .i64)) (hx : evl l x = some (.float .f64 a)) (hm : (FloatKind.f64.decode a).toInt .zero = some (m : Int)) (hb : m < 9223372036854775808) : Ev P n l w (.convert t d x) (.int .i64 (m : Int)) := fun o ac w' ho ha _ => by
  unfold execOp; rw [ho]
  obtain ⟨k, hk⟩ := hs
  have h1 : IntKind.i64.min ≤ (m : Int) ∧ (m : Int) ≤ IntKind.i64.max := by
    have e1 : IntKind.i64.min = -9223372036854775808 := by decide
    have e2 : IntKind.i64.max = 9223372036854775807 := by decide
    omega
  have h2 : (Conv.floatToInt .f64 a .i64).run P w' = .ok (.int .i64 (m : Int)) w' := by
    simp only [Conv.floatToInt, hm]
    rw [if_pos h1]
    rfl
  simp [ha.eval hx, convert, run_underlying hk, run_underlying hd, h2]
theorem Ev.itof {d : TypeId} {k : IntKind} {z : Int} {m : Nat} (hs : ∃ k, P.underlying t = some k) (hd : P.underlying d = some (.float .f64)) (hx : evl l x = some (.int k z)) (hm : z = (m : Int)) : Ev P n l w (.convert t d x) (.float .f64 (fb m)) := fun o ac w' ho ha _ => by
  unfold execOp; rw [ho]
  obtain ⟨k, hk⟩ := hs
  simp [ha.eval hx, convert, run_underlying hk, run_underlying hd, Conv.intToFloat, hm, fb]
theorem Ev.fgeq {a b : Nat} (ha : a < 70) (hb : b < 70) (hx : evl l x = some (.float .f64 (fb a))) (hy : evl l y = some (.float .f64 (fb b))) : Ev P n l w (.binOp .geq t x y ty) (.bool (decide (b ≤ a))) :=
  Ev.binop hx hy (eqGuard_at_float ..) fun w => by
    have := fb_geq a ha b hb
    simp [binOp, Op.floatCmp, this]
end
end Go.Proofs.YtjcklpooaaaglaaGreat
set_option linter.all false
namespace Go.Proofs.YtjcklpooaaaglaaGreat

theorem take_snoc {α : Type} {xs : List α} {k : Nat} {x : α} (h : xs[k]? = some x) : xs.take (k + 1) = xs.take k ++ [x] := by
  rw [List.take_add_one, h]; rfl
theorem mem_of_get {α : Type} {xs : List α} {k : Nat} {x : α} (h : xs[k]? = some x) : x ∈ xs := List.mem_of_getElem? h

/-- the place of the first of which p holds; -1 if there is none -/
def idxOf {α : Type} (p : α → Bool) : List α → Int
  | [] => -1
  | x :: xs => if p x then 0 else if idxOf p xs < 0 then -1 else idxOf p xs + 1
theorem idxOf_none {α : Type} {p : α → Bool} : ∀ {xs : List α}, (∀ x ∈ xs, p x = false) → idxOf p xs = -1
  | [], _ => rfl
  | x :: xs, h => by
    have h1 := h x (by simp)
    have h2 := idxOf_none (p := p) (xs := xs) (fun y hy => h y (by simp [hy]))
    simp [idxOf, h1, h2]
theorem idxOf_ge {α : Type} {p : α → Bool} : ∀ (xs : List α), -1 ≤ idxOf p xs
  | [] => by simp [idxOf]
  | x :: xs => by
    have := idxOf_ge (p := p) xs
    unfold idxOf
    split
    · omega
    · split <;> omega
theorem idxOf_found {α : Type} {p : α → Bool} : ∀ {xs : List α} {k : Nat} {x : α}, (∀ y ∈ xs.take k, p y = false) → xs[k]? = some x → p x = true → idxOf p xs = (k : Int)
  | [], k, x, _, h, _ => by simp at h
  | y :: xs, 0, x, _, h, hp => by
    simp at h; subst h
    simp [idxOf, hp]
  | y :: xs, k + 1, x, h0, h, hp => by
    have h1 := h0 y (by simp)
    have h2 := idxOf_found (p := p) (xs := xs) (k := k) (x := x) (fun z hz => h0 z (by simp [hz])) (by simpa using h) hp
    simp only [idxOf, h1, h2]
    simp
    omega
theorem idxOf_lt {α : Type} {p : α → Bool} : ∀ (xs : List α), idxOf p xs < xs.length
  | [] => by simp [idxOf]
  | x :: xs => by
    have := idxOf_lt (p := p) xs
    unfold idxOf
    simp only [List.length_cons]
    split
    · omega
    · split <;> omega
/-- what it says, either way -/
theorem idxOf_spec {α : Type} (p : α → Bool) (xs : List α) : (idxOf p xs = -1 ∧ ∀ x ∈ xs, p x = false) ∨ ∃ (k : Nat) (x : α), idxOf p xs = (k : Int) ∧ xs[k]? = some x ∧ p x = true ∧ ∀ y ∈ xs.take k, p y = false := by
  induction xs with
  | nil => left; exact ⟨rfl, fun x hx => by simp at hx⟩
  | cons y xs ih =>
    by_cases hp : p y = true
    · right; exact ⟨0, y, by simp [idxOf, hp], rfl, hp, fun z hz => by simp at hz⟩
    · have hp' : p y = false := by simpa using hp
      rcases ih with ⟨h1, h2⟩ | ⟨k, x, h1, h2, h3, h4⟩
      · left
        refine ⟨by simp [idxOf, hp', h1], fun x hx => ?_⟩
        rcases List.mem_cons.1 hx with rfl | hx
        · exact hp'
        · exact h2 x hx
      · right
        refine ⟨k + 1, x, by simp [idxOf, hp', h1]; omega, by simpa using h2, h3, fun z hz => ?_⟩
        rcases List.mem_cons.1 (by simpa using hz) with rfl | hz
        · exact hp'
        · exact h4 z hz
theorem all_snoc {α : Type} {q : α → Prop} {xs : List α} {k : Nat} {x : α} (h : ∀ y ∈ xs.take k, q y) (hx : xs[k]? = some x) (hq : q x) : ∀ y ∈ xs.take (k + 1), q y := by
  rw [take_snoc hx]
  intro y hy
  rcases List.mem_append.1 hy with h1 | h1
  · exact h y h1
  · simp at h1; rw [h1]; exact hq
theorem all_take {α : Type} {q : α → Prop} {xs : List α} {k : Nat} (h : ∀ y ∈ xs.take k, q y) (hk : xs.length ≤ k) : ∀ y ∈ xs, q y := by
  rw [List.take_of_length_le hk] at h; exact h
/-- how long the first k rows are together -/
def lenTo {α : Type} (xss : List (List α)) (k : Nat) : Nat := ((xss.take k).flatten).length
theorem lenTo_succ {α : Type} {xss : List (List α)} {k : Nat} {s : List α} (h : xss[k]? = some s) : lenTo xss (k + 1) = lenTo xss k + s.length := by
  unfold lenTo; rw [take_snoc h]; simp
theorem lenTo_le {α : Type} (xss : List (List α)) (k : Nat) : lenTo xss k ≤ xss.flatten.length := by
  unfold lenTo
  conv => rhs; rw [← List.take_append_drop k xss]
  rw [List.flatten_append, List.length_append]; omega
theorem flatten_snoc {α : Type} {xss : List (List α)} {k : Nat} {s : List α} (h : xss[k]? = some s) : (xss.take k).flatten ++ s = (xss.take (k + 1)).flatten := by
  rw [take_snoc h]; simp

/-- q holds of each element, at its place -/
def allIdx {α : Type} (q : Nat → α → Bool) (xs : List α) : Bool := (List.range xs.length).all fun i => match xs[i]? with | some x => q i x | none => true
theorem allIdx_iff {α : Type} {q : Nat → α → Bool} {xs : List α} : allIdx q xs = true ↔ ∀ (i : Nat) (x : α), xs[i]? = some x → q i x = true := by
  unfold allIdx
  rw [List.all_eq_true]
  constructor
  · intro h i x hx
    have hi : i < xs.length := (List.getElem?_eq_some_iff.1 hx).1
    have := h i (List.mem_range.2 hi)
    rw [hx] at this
    exact this
  · intro h i hi
    cases hx : xs[i]? with
    | none => rfl
    | some x => exact h i x hx
theorem allIdx_bad {α : Type} {q : Nat → α → Bool} {xs : List α} {i : Nat} {x : α} (hx : xs[i]? = some x) (hq : q i x = false) : allIdx q xs = false := by
  cases h : allIdx q xs with
  | false => rfl
  | true => have := allIdx_iff.1 h i x hx; rw [hq] at this; cases this
theorem idx_snoc {α : Type} {q : Nat → α → Prop} {xs : List α} {k : Nat} (h : ∀ (i : Nat) (x : α), i < k → xs[i]? = some x → q i x) {x : α} (hx : xs[k]? = some x) (hq : q k x) : ∀ (i : Nat) (x : α), i < k + 1 → xs[i]? = some x → q i x := by
  intro i y hi hy
  rcases Nat.lt_or_ge i k with h1 | h1
  · exact h i y h1 hy
  · have : i = k := by omega
    subst this
    rw [hx] at hy
    cases hy
    exact hq

/-! ### search in what rises -/
def low {α : Type} (g : α → Int) (s : List α) : Nat := s.countP fun x => decide (g x < 0)
def hits {α : Type} (g : α → Int) (s : List α) : Bool := match s[low g s]? with | some x => decide (g x = 0) | none => false
def Mono {α : Type} (g : α → Int) (s : List α) : Prop := ∀ (i j : Nat) (x y : α), i ≤ j → s[i]? = some x → s[j]? = some y → g y < 0 → g x < 0
theorem low_le {α : Type} (g : α → Int) (s : List α) : low g s ≤ s.length := List.countP_le_length
theorem low_eq {α : Type} {g : α → Int} {s : List α} {i : Nat} (hi : i ≤ s.length) (h1 : ∀ (a : Nat) (x : α), a < i → s[a]? = some x → g x < 0) (h2 : ∀ (a : Nat) (x : α), i ≤ a → s[a]? = some x → ¬ g x < 0) : low g s = i := by
  have e : low g s = (s.take i).countP (fun x => decide (g x < 0)) + (s.drop i).countP (fun x => decide (g x < 0)) := by
    unfold low; rw [← List.countP_append, List.take_append_drop]
  have e1 : (s.take i).countP (fun x => decide (g x < 0)) = (s.take i).length := by
    rw [List.countP_eq_length]
    intro x hx
    obtain ⟨a, ha, rfl⟩ := List.getElem_of_mem hx
    have hlt : a < i := by simp only [List.length_take] at ha; omega
    exact decide_eq_true (h1 a _ hlt (by rw [List.getElem_take]; exact List.getElem?_eq_getElem _))
  have e2 : (s.drop i).countP (fun x => decide (g x < 0)) = 0 := by
    rw [List.countP_eq_zero]
    intro x hx
    obtain ⟨a, ha, rfl⟩ := List.getElem_of_mem hx
    have hb : i + a < s.length := by simp only [List.length_drop] at ha; omega
    have := h2 (i + a) _ (by omega) (List.getElem?_eq_getElem hb)
    rw [List.getElem_drop]
    simpa using this
  rw [e, e1, e2, List.length_take]; omega

def cmpI (x y : Int) : Int := if x < y then -1 else if y < x then 1 else 0
theorem cmpI_neg {x y : Int} : cmpI x y < 0 ↔ x < y := by
  unfold cmpI; split
  · omega
  · split <;> omega
theorem cmpI_zero {x y : Int} : cmpI x y = 0 ↔ x = y := by
  unfold cmpI; split
  · omega
  · split <;> omega
/-- keys that rise -/
def Up {α : Type} (key : α → Int) (s : List α) : Prop := s.Pairwise fun x y => key x < key y
theorem Up.get {α : Type} {key : α → Int} {s : List α} (h : Up key s) {i j : Nat} {x y : α} (hij : i < j) (hx : s[i]? = some x) (hy : s[j]? = some y) : key x < key y := by
  have hi := lt_of_get hx
  have hj := lt_of_get hy
  have := (List.pairwise_iff_getElem.1 h) i j hi hj hij
  rw [(List.getElem?_eq_some_iff.1 hx).2, (List.getElem?_eq_some_iff.1 hy).2] at this
  exact this
theorem Up.mono {α : Type} {key : α → Int} {s : List α} (h : Up key s) (n : Int) : Mono (fun y => cmpI (key y) n) s := by
  intro i j x y hij hx hy hlt
  simp only [cmpI_neg] at hlt ⊢
  rcases Nat.lt_or_ge i j with h1 | h1
  · have := h.get h1 hx hy; omega
  · have : i = j := by omega
    subst this; rw [hx] at hy; cases hy; exact hlt
theorem hits_iff {α : Type} {key : α → Int} {s : List α} (h : Up key s) (n : Int) : hits (fun y => cmpI (key y) n) s = true ↔ ∃ x ∈ s, key x = n := by
  have hl : ∀ (i : Nat) (x : α), s[i]? = some x → key x = n → low (fun y => cmpI (key y) n) s = i := by
    intro i x hx hk
    refine low_eq (by have := lt_of_get hx; omega) (fun a y ha hy => ?_) (fun a y ha hy => ?_)
    · rw [cmpI_neg]; have := h.get ha hy hx; omega
    · rw [cmpI_neg]
      rcases Nat.lt_or_ge i a with h1 | h1
      · have := h.get h1 hx hy; omega
      · have : a = i := by omega
        subst this; rw [hx] at hy; cases hy; omega
  constructor
  · intro hh
    unfold hits at hh
    split at hh
    · rename_i x hx
      have := of_decide_eq_true hh
      exact ⟨x, mem_of_get hx, cmpI_zero.1 this⟩
    · cases hh
  · rintro ⟨x, hx, hk⟩
    obtain ⟨i, hi, rfl⟩ := List.getElem_of_mem hx
    have h1 := hl i _ (List.getElem?_eq_getElem hi) hk
    unfold hits
    rw [h1, List.getElem?_eq_getElem hi]
    exact decide_eq_true (cmpI_zero.2 hk)
theorem hits_at {α : Type} {key : α → Int} {s : List α} {n : Int} (h : hits (fun y => cmpI (key y) n) s = true) : ∃ x, s[low (fun y => cmpI (key y) n) s]? = some x ∧ key x = n := by
  unfold hits at h
  split at h
  · rename_i x hx; exact ⟨x, hx, cmpI_zero.1 (of_decide_eq_true h)⟩
  · cases h
end Go.Proofs.YtjcklpooaaaglaaGreat
set_option linter.all false
namespace Go.Proofs.YtjcklpooaaaglaaGreat
open Go.RowKit

/-! ### raw cells -/
/-- an element as its cells -/
abbrev Cells (k : Nat) := { u : List Value // u.length = k ∧ ∀ v ∈ u, v.oneCell' = true }
def tRaw (k : Nat) (pos : 0 < k) : Ty (Cells k) := Ty.flat k (fun u => u.1) pos (fun u => u.2.1) (fun u => u.2.2)
def flatC {k : Nat} (us : List (Cells k)) : List Value := (us.map (·.1)).flatten
theorem flatC_append {k : Nat} (us vs : List (Cells k)) : flatC (us ++ vs) = flatC us ++ flatC vs := by simp [flatC]
theorem flatC_length {k : Nat} : ∀ (us : List (Cells k)), (flatC us).length = us.length * k
  | [] => by simp [flatC]
  | u :: us => by
    have := flatC_length us
    simp only [flatC, List.map_cons, List.flatten_cons, List.length_append, List.length_cons] at this ⊢
    rw [this, u.2.1, Nat.add_mul]; omega
theorem flatC_one {k : Nat} {us : List (Cells k)} : ∀ v ∈ flatC us, v.oneCell' = true := by
  intro v hv
  simp only [flatC, List.mem_flatten, List.mem_map] at hv
  obtain ⟨_, ⟨u, _, rfl⟩, h⟩ := hv
  exact u.2.2 v h
theorem flatC_take {k : Nat} : ∀ (us : List (Cells k)) (m : Nat), (flatC us).take (m * k) = flatC (us.take m)
  | [], m => by simp [flatC]
  | u :: us, 0 => by simp [flatC]
  | u :: us, m + 1 => by
    have ih := flatC_take us m
    have h0 := u.2.1
    have e1 : u.1.take ((m + 1) * k) = u.1 := List.take_of_length_le (by rw [h0, Nat.add_mul]; omega)
    have e2 : (m + 1) * k - k = m * k := by rw [Nat.add_mul]; omega
    simp only [flatC, List.map_cons, List.flatten_cons, List.take_succ_cons] at ih ⊢
    rw [List.take_append, e1, h0, e2, ih]
theorem flatC_drop {k : Nat} : ∀ (us : List (Cells k)) (m : Nat), (flatC us).drop (m * k) = flatC (us.drop m)
  | [], m => by simp [flatC]
  | u :: us, 0 => by simp [flatC]
  | u :: us, m + 1 => by
    have ih := flatC_drop us m
    have h0 := u.2.1
    have e1 : u.1.drop ((m + 1) * k) = [] := List.drop_of_length_le (by rw [h0, Nat.add_mul]; omega)
    have e2 : (m + 1) * k - k = m * k := by rw [Nat.add_mul]; omega
    simp only [flatC, List.map_cons, List.flatten_cons, List.drop_succ_cons] at ih ⊢
    rw [List.drop_append, e1, h0, e2, ih, List.nil_append]

section
variable {α : Type} {τ : Ty α} {e : TypeId} {lo : Nat} {S S2 : Nat → Prop} {w w' : World} {A B : Option Addr} {c : Nat} {xs ys : List α} {us vs : List (Cells τ.k)}
theorem own_raw_iff {k : Nat} {pos : 0 < k} {us : List (Cells k)} : Own (tRaw k pos) e lo S w A c us ↔ w.ownsRow lo e k (.slice A us.length c) us.length (flatC us) := by
  constructor
  · rintro ⟨css, hl, hR, hown⟩
    have : css = us.map (·.1) := by
      apply List.ext_getElem?
      intro i
      rw [List.getElem?_map]
      cases hu : us[i]? with
      | none => have := List.getElem?_eq_none_iff.1 hu; simp; omega
      | some u =>
        obtain ⟨cs, h1, h2⟩ := hR i u hu
        have h2 : cs = u.1 := h2
        rw [h1, h2]; rfl
    subst this
    exact hown
  · intro h
    refine ⟨us.map (·.1), by simp, fun i u hu => ⟨u.1, by rw [List.getElem?_map, hu]; rfl, rfl⟩, ?_⟩
    exact h
theorem exists_cells {k : Nat} : ∀ (css : List (List Value)), (∀ cs ∈ css, cs.length = k ∧ ∀ v ∈ cs, v.oneCell' = true) → ∃ us : List (Cells k), us.map (·.1) = css
  | [], _ => ⟨[], rfl⟩
  | cs :: css, h => by
    obtain ⟨us, hu⟩ := exists_cells css (fun c hc => h c (by simp [hc]))
    exact ⟨⟨cs, h cs (by simp)⟩ :: us, by simp [hu]⟩
/-- the elements' cells are these -/
def Rel (τ : Ty α) (S : Nat → Prop) (w : World) (xs : List α) (us : List (Cells τ.k)) : Prop := us.length = xs.length ∧ ∀ (i : Nat) (x : α) (u : Cells τ.k), xs[i]? = some x → us[i]? = some u → τ.R S w x u.1
theorem rel_of {css : List (List Value)} (hl : css.length = xs.length) (hR : ∀ (i : Nat) (x : α), xs[i]? = some x → ∃ cs, css[i]? = some cs ∧ τ.R S w x cs) : ∃ us : List (Cells τ.k), us.map (·.1) = css ∧ Rel τ S w xs us := by
  have hk : ∀ cs ∈ css, cs.length = τ.k ∧ ∀ v ∈ cs, v.oneCell' = true := by
    intro cs hcs
    obtain ⟨i, hi, rfl⟩ := List.getElem_of_mem hcs
    obtain ⟨cs', h3, h4⟩ := hR i (xs[i]'(by omega)) (List.getElem?_eq_getElem _)
    rw [List.getElem?_eq_getElem hi] at h3
    cases h3
    exact ⟨τ.len h4, τ.one h4⟩
  obtain ⟨us, hus⟩ := exists_cells css hk
  refine ⟨us, hus, by rw [← hl, ← hus, List.length_map], ?_⟩
  intro i x u hx hu
  obtain ⟨cs, h1, h2⟩ := hR i x hx
  rw [← hus, List.getElem?_map, hu] at h1
  have h1 : u.1 = cs := by simpa using h1
  rw [h1]
  exact h2
theorem Own.raw (h : Own τ e lo S w A c xs) : ∃ us : List (Cells τ.k), Own (tRaw τ.k τ.pos) e lo No w A c us ∧ Rel τ S w xs us := by
  obtain ⟨css, hl, hR, hown⟩ := h
  obtain ⟨us, h1, h2⟩ := rel_of hl hR
  refine ⟨us, own_raw_iff.2 ?_, h2⟩
  rw [h2.1, flatC, h1]
  exact hown
theorem Own.ofRaw {S' : Nat → Prop} (h : Own (tRaw τ.k τ.pos) e lo S' w A c us) (hr : Rel τ S w xs us) : Own τ e lo S w A c xs := by
  have h1 := own_raw_iff.1 h
  rw [hr.1] at h1
  refine ⟨us.map (·.1), by simp [hr.1], fun i x hx => ?_, by exact h1⟩
  obtain ⟨u, hu⟩ := get_some (xs := us) (i := i) (by rw [hr.1]; exact lt_of_get hx)
  exact ⟨u.1, by rw [List.getElem?_map, hu]; rfl, hr.2 i x u hx hu⟩
theorem Sl.raw (h : Sl τ S w A c xs) : ∃ us : List (Cells τ.k), Sl (tRaw τ.k τ.pos) S w A c us ∧ Rel τ S w xs us := by
  obtain ⟨css, hcss⟩ : ∃ css : List (List Value), css.length = xs.length ∧ ∀ (i : Nat) (x : α), xs[i]? = some x → ∃ cs, css[i]? = some cs ∧ τ.R S w x cs ∧ ∀ j u, cs[j]? = some u → w.cell? ((adr A).add (i * τ.k + j)) = some u := by
    have key : ∀ (ys : List α) (o : Nat), (∀ (i : Nat) (x : α), ys[i]? = some x → ∃ cs, τ.R S w x cs ∧ ∀ j u, cs[j]? = some u → w.cell? ((adr A).add ((o + i) * τ.k + j)) = some u) →
        ∃ css : List (List Value), css.length = ys.length ∧ ∀ (i : Nat) (x : α), ys[i]? = some x → ∃ cs, css[i]? = some cs ∧ τ.R S w x cs ∧ ∀ j u, cs[j]? = some u → w.cell? ((adr A).add ((o + i) * τ.k + j)) = some u := by
      intro ys
      induction ys with
      | nil => intro o _; exact ⟨[], rfl, fun i x hx => by simp at hx⟩
      | cons y ys ih =>
        intro o hy
        obtain ⟨cs, h1, h2⟩ := hy 0 y rfl
        obtain ⟨css, h3, h4⟩ := ih (o + 1) (fun i x hx => by
          obtain ⟨cs, h1, h2⟩ := hy (i + 1) x (by simpa using hx)
          exact ⟨cs, h1, fun j u hu => by have := h2 j u hu; rwa [show o + 1 + i = o + (i + 1) from by omega]⟩)
        refine ⟨cs :: css, by simp [h3], fun i x hx => ?_⟩
        cases i with
        | zero => simp at hx; subst hx; exact ⟨cs, rfl, h1, h2⟩
        | succ i =>
          obtain ⟨cs', h5, h6, h7⟩ := h4 i x (by simpa using hx)
          exact ⟨cs', by simpa using h5, h6, fun j u hu => by have := h7 j u hu; rwa [show o + 1 + i = o + (i + 1) from by omega] at this⟩
    obtain ⟨css, h1, h2⟩ := key xs 0 (fun i x hx => by obtain ⟨_, cs, h1, h2⟩ := h.rows i x hx; exact ⟨cs, h1, fun j u hu => by simpa using h2 j u hu⟩)
    exact ⟨css, h1, fun i x hx => by obtain ⟨cs, h3, h4, h5⟩ := h2 i x hx; exact ⟨cs, h3, h4, fun j u hu => by simpa using h5 j u hu⟩⟩
  obtain ⟨us, h1, h2⟩ := rel_of (τ := τ) (S := S) (w := w) hcss.1 (fun i x hx => by obtain ⟨cs, h3, h4, _⟩ := hcss.2 i x hx; exact ⟨cs, h3, h4⟩)
  refine ⟨us, ⟨by rw [h2.1]; exact h.cap, h.max, h.nil, fun i u hu => ?_⟩, h2⟩
  obtain ⟨x, hx⟩ := get_some (xs := xs) (i := i) (by rw [← h2.1]; exact lt_of_get hu)
  obtain ⟨cs, h3, h4, h5⟩ := hcss.2 i x hx
  have h6 : cs = u.1 := by
    rw [← h1, List.getElem?_map, hu] at h3
    simpa using h3.symm
  subst h6
  exact ⟨(h.rows i x hx).1, u.1, rfl, h5⟩
theorem Rel.append (h : Rel τ S w xs us) (h' : Rel τ S w ys vs) : Rel τ S w (xs ++ ys) (us ++ vs) := by
  refine ⟨by simp [h.1, h'.1], fun i x u hx hu => ?_⟩
  by_cases hi : i < xs.length
  · rw [List.getElem?_append_left hi] at hx
    rw [List.getElem?_append_left (by rw [h.1]; exact hi)] at hu
    exact h.2 i x u hx hu
  · rw [List.getElem?_append_right (by omega)] at hx
    rw [List.getElem?_append_right (by rw [h.1]; omega), h.1] at hu
    exact h'.2 _ x u hx hu
theorem Rel.take (h : Rel τ S w xs us) (m : Nat) : Rel τ S w (xs.take m) (us.take m) := by
  refine ⟨by simp [h.1], fun i x u hx hu => ?_⟩
  rw [List.getElem?_take] at hx hu
  split at hx
  · rename_i hi; rw [if_pos hi] at hu; exact h.2 i x u hx hu
  · cases hx
theorem Rel.drop (h : Rel τ S w xs us) (m : Nat) : Rel τ S w (xs.drop m) (us.drop m) := by
  refine ⟨by simp [h.1], fun i x u hx hu => ?_⟩
  rw [List.getElem?_drop] at hx hu
  exact h.2 _ x u hx hu
theorem Rel.sub {S' : Nat → Prop} (h : Rel τ S w xs us) (hs : ∀ b, S b → S' b) : Rel τ S' w xs us := ⟨h.1, fun i x u hx hu => τ.sub hs (h.2 i x u hx hu)⟩
theorem Rel.ext (h : Rel τ S w xs us) (x : Ext w w') : Rel τ S w' xs us := ⟨h.1, fun i y u hx hu => τ.ext x (h.2 i y u hx hu)⟩
theorem Rel.grown (h : Rel τ S w xs us) (hg : Grw w w' (blk A)) (hS : ∀ g, blk A = some g → ¬ S g) : Rel τ S w' xs us := by
  refine ⟨h.1, fun i y u hx hu => ?_⟩
  have := h.2 i y u hx hu
  cases hA : blk A with
  | none => rw [hA] at hg; exact τ.ext (Ext.of_grown hg (fun k hk => by cases hk)) this
  | some g => rw [hA] at hg; exact τ.mod (Mod.of_grown hg (fun k hk => by cases hk; rfl)) (hS g hA) this
end
/-- blocks other than the row's own -/
def Off (A : Option Addr) : Nat → Prop := fun b => blk A ≠ some b
theorem Off.not {A : Option Addr} : ∀ g, blk A = some g → ¬ Off A g := fun g h k => k h

/-! ### copy -/
section
variable {P : Program} {w : World}
theorem run_copyK {dT sT ty elem : TypeId} {k g o dl dc : Nat} {a : Addr} {sl sc : Nat} {cur cs : List Value} (hu : P.underlying dT = some (.slice elem)) (hs : Size P elem k) {e : TypeId} (hg : Bx w g e cur) (hn : cs.length = Nat.min sl dl * k)
    (hsrc : ∀ j v, cs[j]? = some v → w.cell? (a.add j) = some v) (hfit : o + cs.length ≤ cur.length) (h1 : ∀ v ∈ cs, v.oneCell' = true) :
    (Builtin.copy_ #[dT, sT] ty #[.slice (some ⟨g, o, none⟩) dl dc, .slice (some a) sl sc]).run P w = .ok (goInt (Nat.min sl dl)) (w.setRow g (cur.take o ++ cs ++ cur.drop (o + cs.length)).toArray) := by
  have hl := run_loadCells_list (P := P) w a cs hsrc
  have hst := run_storeCells_at P g o e cs 0 cur.toArray w hg (by simpa using hfit) h1
  simp only [Nat.add_zero] at hst
  simp [Builtin.copy_, run_underlying hu, Builtin.lenOf, Builtin.firstCells, hs w, ← hn, hl, hst]
theorem run_copy0 {dT sT ty elem : TypeId} {k dl dc sl sc : Nat} {A B : Option Addr} (hu : P.underlying dT = some (.slice elem)) (hs : Size P elem k) (hn : Nat.min sl dl = 0) :
    (Builtin.copy_ #[dT, sT] ty #[.slice A dl dc, .slice B sl sc]).run P w = .ok (goInt 0) w := by
  cases A <;> cases B <;> simp [Builtin.copy_, run_underlying hu, Builtin.lenOf, Builtin.firstCells, hs w, hn, loadCells, loadCellsFrom, storeCells]
theorem grownBy_setRow (w : World) (g : Nat) (cs : Array Value) : Grw w (w.setRow g cs) (some g) :=
  ⟨rfl, rfl, rfl, by simp [World.setRow], fun k _ hk => setRow_other w g k cs (fun e => hk (by rw [e])), Nat.le_refl _⟩
end
/-- vs laid over us from lo on -/
def over {k : Nat} (us : List (Cells k)) (lo : Nat) (vs : List (Cells k)) : List (Cells k) := us.take lo ++ vs.take (us.length - lo) ++ us.drop (lo + vs.length)
theorem over_length {k : Nat} {us vs : List (Cells k)} {lo : Nat} (h : lo ≤ us.length) : (over us lo vs).length = us.length := by
  simp only [over, List.length_append, List.length_take, List.length_drop]; omega

theorem nmin (a b : Nat) : Nat.min a b = if a ≤ b then a else b := Nat.min_def
theorem take_splice {β : Type} {L cs : List β} {p N : Nat} (h1 : p + cs.length ≤ N) (h2 : N ≤ L.length) : (L.take p ++ cs ++ L.drop (p + cs.length)).take N = L.take p ++ cs ++ (L.take N).drop (p + cs.length) := by
  have hp : (L.take p).length = p := by simp only [List.length_take]; omega
  have a1 : (L.take p).take N = L.take p := List.take_of_length_le (by omega)
  have a2 : cs.take (N - p) = cs := List.take_of_length_le (by omega)
  rw [List.take_append, List.take_append, hp, a1, a2, List.drop_take, List.length_append, hp]
theorem length_splice_ {β : Type} {L cs : List β} {p : Nat} (h1 : p + cs.length ≤ L.length) : (L.take p ++ cs ++ L.drop (p + cs.length)).length = L.length := by
  simp only [List.length_append, List.length_take, List.length_drop]; omega
theorem Sl.raw_cells {k : Nat} {pos : 0 < k} {S : Nat → Prop} {w : World} {B : Option Addr} {d : Nat} {vs : List (Cells k)} (h : Sl (tRaw k pos) S w B d vs) : ∀ j v, (flatC vs)[j]? = some v → w.cell? ((adr B).add j) = some v := by
  obtain ⟨css, hl, hR, _, _, hc⟩ := h.cells
  have : css = vs.map (·.1) := by
    apply List.ext_getElem?
    intro i
    rw [List.getElem?_map]
    cases hu : vs[i]? with
    | none => have := List.getElem?_eq_none_iff.1 hu; simp; omega
    | some u =>
      obtain ⟨cs, h1, h2⟩ := hR i u hu
      have h2 : cs = u.1 := h2
      rw [h1, h2]; rfl
  subst this
  exact hc
theorem Own.open_ {k : Nat} {pos : 0 < k} {e : TypeId} {lo : Nat} {S : Nat → Prop} {w : World} {A : Option Addr} {c : Nat} {us : List (Cells k)} (h : Own (tRaw k pos) e lo S w A c us) (hc : 0 < c) :
    ∃ g cur, A = some ⟨g, 0, none⟩ ∧ lo ≤ g ∧ Bx w g e cur ∧ us.length ≤ c ∧ c ≤ maxLen ∧ cur.length = c * k ∧ cur.take (us.length * k) = flatC us := by
  have h1 := own_raw_iff.1 h
  rcases h1.2 with ⟨hv, hn⟩ | ⟨g, cap, cur, hv, hg, hh, hnc, hcm, hcs, ht⟩
  · injection hv with hA hn' hc'; omega
  · injection hv with hA hn' hc'
    subst hA hc'
    exact ⟨g, cur.toList, rfl, hg, hh, hnc, hcm, by simpa using hcs, ht⟩
theorem Own.shut_ {k : Nat} {pos : 0 < k} {e : TypeId} {lo : Nat} {S : Nat → Prop} {w : World} {g c : Nat} {us : List (Cells k)} {cur : List Value} (hg : lo ≤ g) (hb : Bx w g e cur) (hnc : us.length ≤ c) (hcm : c ≤ maxLen) (hcs : cur.length = c * k) (ht : cur.take (us.length * k) = flatC us) : Own (tRaw k pos) e lo S w (some ⟨g, 0, none⟩) c us :=
  own_raw_iff.2 ⟨flatC_length us, .inr ⟨g, c, cur.toArray, rfl, hg, hb, hnc, hcm, by simpa using hcs, by simpa using ht⟩⟩
theorem cutA_some {g c lo k : Nat} (h : c ≠ lo) : cutA (some ⟨g, 0, none⟩) c lo k = some ⟨g, lo * k, none⟩ := by
  unfold cutA; rw [if_neg h]; simp [Addr.add_lit]
section
variable {P : Program} {n : Cx} {l : List (Nat × Value)} {w : World} {Q : Exit → Act → World → Prop} {K : Act → World → Prop} {ops : Array Oper} {os : List Oper} {ty : TypeId} {pos : String} {aft : Array Edge} {d : Nat}
theorem run_copyOwn {k : Nat} {kp : 0 < k} {dT sT ty e : TypeId} {lo0 lo c d2 : Nat} {A B : Option Addr} {us vs : List (Cells k)} {S S2 : Nat → Prop} (hu : P.underlying dT = some (.slice e)) (hs : Size P e k)
    (ho : Own (tRaw k kp) e lo0 S w A c us) (hv : Sl (tRaw k kp) S2 w B d2 vs) (hlo : lo ≤ us.length) :
    ∃ w', (Builtin.copy_ #[dT, sT] ty #[.slice (cutA A c lo k) (us.length - lo) (c - lo), .slice B vs.length d2]).run P w = .ok (goInt (Nat.min vs.length (us.length - lo))) w' ∧ Own (tRaw k kp) e lo0 S w' A c (over us lo vs) ∧ Grw w w' (blk A) ∧ w'.heap.size = w.heap.size := by
  by_cases h0 : Nat.min vs.length (us.length - lo) = 0
  · refine ⟨w, by rw [run_copy0 hu hs h0, h0]; rfl, ?_, ⟨rfl, rfl, rfl, Nat.le_refl _, fun _ _ _ => rfl, Nat.le_refl _⟩, rfl⟩
    have : over us lo vs = us := by
      unfold over
      by_cases h1 : vs.length = 0
      · have : vs = [] := List.eq_nil_of_length_eq_zero h1
        subst this; simp
      · have h2 : lo = us.length := by rw [nmin] at h0; split at h0 <;> omega
        subst h2; simp
    rw [this]; exact ho
  · have hm : 0 < us.length - lo ∧ 0 < vs.length := by constructor <;> (rw [nmin] at h0; split at h0 <;> omega)
    have hc : us.length ≤ c := (ho.sl (S' := Any) (fun _ _ => trivial) (fun _ _ => trivial)).cap
    obtain ⟨g, cur, rfl, hg, hb, hnc, hcm, hcl, ht⟩ := ho.open_ (by omega)
    have hB : B = some (adr B) := hv.some_ (i := 0) (x := vs[0]'(by omega)) (List.getElem?_eq_getElem _)
    have hmin : Nat.min vs.length (us.length - lo) = (vs.take (us.length - lo)).length := by rw [List.length_take]; exact Nat.min_comm _ _
    have hcsl : (flatC (vs.take (us.length - lo))).length = Nat.min vs.length (us.length - lo) * k := by rw [flatC_length, hmin]
    have hle : (lo + Nat.min vs.length (us.length - lo)) ≤ us.length := by rw [nmin]; split <;> omega
    have hlek : lo * k + (flatC (vs.take (us.length - lo))).length ≤ us.length * k := by rw [hcsl, ← Nat.add_mul]; exact Nat.mul_le_mul_right _ hle
    have hnk : us.length * k ≤ cur.length := by rw [hcl]; exact Nat.mul_le_mul_right _ hnc
    rw [cutA_some (by omega), hB]
    refine ⟨_, run_copyK hu hs hb hcsl (fun j v hj => hv.raw_cells j v ?_) (by omega) flatC_one, ?_, grownBy_setRow w g _, by simp [World.setRow]⟩
    · rw [← flatC_take, List.getElem?_take] at hj
      split at hj
      · exact hj
      · cases hj
    · refine Own.shut_ hg (setRow_heap w g _ _ e _ hb) (by rw [over_length hlo]; exact hnc) hcm (by rw [length_splice_ (by omega)]; exact hcl) ?_
      rw [over_length hlo, take_splice hlek hnk, ht]
      have e1 : cur.take (lo * k) = flatC (us.take lo) := by
        rw [← flatC_take, ← ht, List.take_take, Nat.min_eq_left (Nat.mul_le_mul_right _ hlo)]
      have e2 : (flatC us).drop (lo * k + (flatC (vs.take (us.length - lo))).length) = flatC (us.drop (lo + vs.length)) := by
        rw [hcsl, ← Nat.add_mul, flatC_drop]
        by_cases h3 : vs.length ≤ us.length - lo
        · rw [nmin, if_pos h3]
        · have h4 : us.drop (lo + (us.length - lo)) = [] := List.drop_of_length_le (by omega)
          have h5 : us.drop (lo + vs.length) = [] := List.drop_of_length_le (by omega)
          rw [nmin, if_neg h3, h4, h5]
      rw [e1, e2, over, flatC_append, flatC_append]
theorem WL.copyOwn {k : Nat} {kp : 0 < k} {dT sT e : TypeId} {lo0 lo c d2 : Nat} {A B : Option Addr} {us vs : List (Cells k)} {S S2 : Nat → Prop} {x y : Operand} (hx : evl l x = some (.slice (cutA A c lo k) (us.length - lo) (c - lo))) (hy : evl l y = some (.slice B vs.length d2))
    (hu : P.underlying dT = some (.slice e)) (hs : Size P e k) (ho : Own (tRaw k kp) e lo0 S w A c us) (hv : Sl (tRaw k kp) S2 w B d2 vs) (hlo : lo ≤ us.length) (hd : Nat.blt d n.size = true)
    (kk : ∀ w' v, Own (tRaw k kp) e lo0 S w' A c (over us lo vs) → Grw w w' (blk A) → w'.heap.size = w.heap.size → WL P n ops Q K os ((d, v) :: l) w') : WL P n ops Q K (⟨some d, .call ⟨.builtin .copy, #[x, y], #[dT, sT]⟩, ty, pos, aft, none⟩ :: os) l w := by
  obtain ⟨w', hrun, h1, h2, h3⟩ := run_copyOwn (P := P) (sT := sT) (ty := ty) hu hs ho hv hlo
  refine WL.val (v := goInt (Nat.min vs.length (us.length - lo))) (fun a _ => wanted_none a) rfl hd (R := fun w2 => w2 = w') (fun a ha => ⟨w', ?_, rfl⟩) fun w2 e => by rw [e]; exact kk w' _ h1 h2 h3
  unfold execOp
  simp only [resolve, Sem.run_bind, Sem.run_pure, Result.andThen_ok, invoke, builtin, List.map_toArray, List.map_cons, List.map_nil, ha.eval hx, ha.eval hy, hrun]

/-- behind the first copy of an insertion in place: what stood from i on stands m further on -/
def Gap {k : Nat} (e : TypeId) (lo0 : Nat) (w : World) (A : Option Addr) (c : Nat) (us : List (Cells k)) (i m : Nat) : Prop :=
  ∃ g cur, A = some ⟨g, 0, none⟩ ∧ lo0 ≤ g ∧ Bx w g e cur ∧ us.length + m ≤ c ∧ c ≤ maxLen ∧ cur.length = c * k ∧ cur.take (i * k) = flatC (us.take i) ∧ (cur.drop ((i + m) * k)).take ((us.length - i) * k) = flatC (us.drop i)
theorem WL.copyShift {k : Nat} {kp : 0 < k} {dT sT e : TypeId} {lo0 i m c : Nat} {A : Option Addr} {us : List (Cells k)} {S : Nat → Prop} {x y : Operand}
    (hx : evl l x = some (.slice (cutA A c (i + m) k) (us.length + m - (i + m)) (c - (i + m)))) (hy : evl l y = some (.slice (cutA A c i k) (us.length + m - i) (c - i)))
    (hu : P.underlying dT = some (.slice e)) (hs : Size P e k) (ho : Own (tRaw k kp) e lo0 S w A c us) (hi : i < us.length) (hm : us.length + m ≤ c) (hd : Nat.blt d n.size = true)
    (kk : ∀ w' v, Gap e lo0 w' A c us i m → Grw w w' (blk A) → w'.heap.size = w.heap.size → WL P n ops Q K os ((d, v) :: l) w') : WL P n ops Q K (⟨some d, .call ⟨.builtin .copy, #[x, y], #[dT, sT]⟩, ty, pos, aft, none⟩ :: os) l w := by
  obtain ⟨g, cur, rfl, hg, hb, hnc, hcm, hcl, ht⟩ := ho.open_ (by omega)
  have hcsl : (flatC (us.drop i)).length = Nat.min (us.length + m - i) (us.length + m - (i + m)) * k := by
    rw [flatC_length, List.length_drop, show Nat.min (us.length + m - i) (us.length + m - (i + m)) = us.length - i from by rw [nmin]; split <;> omega]
  have hik : i * k ≤ us.length * k := Nat.mul_le_mul_right _ (by omega)
  have hsrc : ∀ j v, (flatC (us.drop i))[j]? = some v → w.cell? ((⟨g, i * k, none⟩ : Addr).add j) = some v := by
    intro j v hj
    rw [Addr.add_lit, hb.cell]
    rw [← flatC_drop, List.getElem?_drop, ← ht, List.getElem?_take] at hj
    split at hj
    · exact hj
    · cases hj
  have hfit : (i + m) * k + (flatC (us.drop i)).length ≤ cur.length := by
    rw [flatC_length, List.length_drop, ← Nat.add_mul, hcl]; exact Nat.mul_le_mul_right _ (by omega)
  have hrun := run_copyK (P := P) (sT := sT) (ty := ty) (dc := c - (i + m)) (sc := c - i) hu hs hb hcsl hsrc hfit flatC_one
  rw [cutA_some (by omega)] at hx hy
  refine WL.val (v := goInt (Nat.min (us.length + m - i) (us.length + m - (i + m)))) (fun a _ => wanted_none a) rfl hd (R := fun w2 => w2 = _) (fun a ha => ⟨_, ?_, rfl⟩) fun w2 e => by
    rw [e]
    refine kk _ _ ⟨g, _, rfl, hg, setRow_heap w g _ _ _ _ hb, hm, hcm, by rw [length_splice_ hfit]; exact hcl, ?_, ?_⟩ (grownBy_setRow w g _) (by simp [World.setRow])
    · have h1 : i * k ≤ (i + m) * k := Nat.mul_le_mul_right _ (by omega)
      have h2 : (cur.take ((i + m) * k)).length = (i + m) * k := by simp only [List.length_take]; omega
      rw [List.append_assoc, List.take_append_of_le_length (by omega), List.take_take, Nat.min_eq_left h1, ← flatC_take, ← ht, List.take_take, Nat.min_eq_left hik]
    · have h2 : (cur.take ((i + m) * k)).length = (i + m) * k := by simp only [List.length_take]; omega
      rw [List.append_assoc, List.drop_append_of_le_length (by omega), List.drop_of_length_le (by omega), List.nil_append]
      rw [List.take_append_of_le_length (by rw [flatC_length, List.length_drop]; exact Nat.le_refl _), List.take_of_length_le (by rw [flatC_length, List.length_drop]; exact Nat.le_refl _)]
  unfold execOp
  simp only [resolve, Sem.run_bind, Sem.run_pure, Result.andThen_ok, invoke, builtin, List.map_toArray, List.map_cons, List.map_nil, ha.eval hx, ha.eval hy, hrun]
theorem WL.copyGap {k : Nat} {kp : 0 < k} {dT sT e : TypeId} {lo0 i m c d2 : Nat} {A B : Option Addr} {us vs : List (Cells k)} {S S2 : Nat → Prop} {x y : Operand}
    (hx : evl l x = some (.slice (cutA A c i k) (us.length + m - i) (c - i))) (hy : evl l y = some (.slice B vs.length d2))
    (hu : P.underlying dT = some (.slice e)) (hs : Size P e k) (ho : Gap e lo0 w A c us i m) (hv : Sl (tRaw k kp) S2 w B d2 vs) (hm : vs.length = m) (h0 : 0 < m) (hi : i < us.length) (hd : Nat.blt d n.size = true)
    (kk : ∀ w' v, Own (tRaw k kp) e lo0 S w' A c (us.take i ++ vs ++ us.drop i) → Grw w w' (blk A) → w'.heap.size = w.heap.size → WL P n ops Q K os ((d, v) :: l) w') : WL P n ops Q K (⟨some d, .call ⟨.builtin .copy, #[x, y], #[dT, sT]⟩, ty, pos, aft, none⟩ :: os) l w := by
  obtain ⟨g, cur, rfl, hg, hb, hnc, hcm, hcl, h1, h2⟩ := ho
  have hB : B = some (adr B) := hv.some_ (i := 0) (x := vs[0]'(by omega)) (List.getElem?_eq_getElem _)
  have hmin : Nat.min vs.length (us.length + m - i) = m := by rw [nmin]; split <;> omega
  have hcsl : (flatC vs).length = Nat.min vs.length (us.length + m - i) * k := by rw [flatC_length, hmin, hm]
  have hfit : i * k + (flatC vs).length ≤ cur.length := by rw [flatC_length, ← Nat.add_mul, hcl]; exact Nat.mul_le_mul_right _ (by omega)
  have hrun := run_copyK (P := P) (sT := sT) (ty := ty) (dc := c - i) (sc := d2) hu hs hb hcsl hv.raw_cells hfit flatC_one
  rw [cutA_some (by omega)] at hx
  rw [hB] at hy
  have hlen : (us.take i ++ vs ++ us.drop i).length = us.length + m := by simp only [List.length_append, List.length_take, List.length_drop]; omega
  refine WL.val (v := goInt (Nat.min vs.length (us.length + m - i))) (fun a _ => wanted_none a) rfl hd (R := fun w2 => w2 = _) (fun a ha => ⟨_, ?_, rfl⟩) fun w2 e => by
    rw [e]
    refine kk _ _ (Own.shut_ hg (setRow_heap w g _ _ _ _ hb) (by omega) hcm (by rw [length_splice_ hfit]; exact hcl) ?_) (grownBy_setRow w g _) (by simp [World.setRow])
    rw [hlen, take_splice (by rw [flatC_length, ← Nat.add_mul]; exact Nat.mul_le_mul_right _ (by omega)) (by rw [hcl]; exact Nat.mul_le_mul_right _ hnc), h1, flatC_append, flatC_append]
    congr 1
    rw [flatC_length, ← Nat.add_mul, hm, List.drop_take, ← Nat.sub_mul, show us.length + m - (i + m) = us.length - i from by omega, h2]
  unfold execOp
  simp only [resolve, Sem.run_bind, Sem.run_pure, Result.andThen_ok, invoke, builtin, List.map_toArray, List.map_cons, List.map_nil, ha.eval hx, ha.eval hy, hrun]
end

/-! ### zero values appended -/
structure ElemZero (P : Program) (e : TypeId) (k bytes : Nat) : Prop where
  ex : ∃ (i : TypeInfo) (z : Value), P.info? e = some i ∧ i.zero = some z ∧ i.size = k ∧ i.bytes = bytes ∧ z.cells.size = k ∧ ∀ v ∈ z.cells.toList, v.oneCell' = true
theorem flatC_rep {k : Nat} (u : Cells k) : ∀ (m j : Nat), j < m * k → (flatC (List.replicate m u))[j]? = u.1[j % k]?
  | 0, j, h => by omega
  | m + 1, j, h => by
    have h0 := u.2.1
    have e : flatC (List.replicate (m + 1) u) = u.1 ++ flatC (List.replicate m u) := by simp [flatC, List.replicate_succ]
    rw [e]
    by_cases hj : j < k
    · rw [List.getElem?_append_left (by omega), Nat.mod_eq_of_lt hj]
    · have h3 : j - k < m * k := by rw [Nat.add_mul] at h; omega
      have h4 : j % k = (j - k) % k := Nat.mod_eq_sub_mod (by omega)
      rw [List.getElem?_append_right (by omega), h0, flatC_rep u m (j - k) h3, h4]
theorem zeroCells_flat {k : Nat} (z : Array Value) (u : Cells k) (hu : z.toList = u.1) (m : Nat) (kp : 0 < k) : (Builtin.zeroCells z m).toList = flatC (List.replicate m u) := by
  have hz : z.size = k := by rw [← Array.length_toList, hu, u.2.1]
  apply List.ext_getElem?
  intro j
  by_cases hj : j < m * k
  · rw [flatC_rep u m j hj]
    have hlt : j % k < k := Nat.mod_lt _ kp
    have h2 : u.1[j % k]? = some (z[j % k]'(by omega)) := by
      rw [← hu, Array.getElem?_toList, Array.getElem?_eq_getElem (by omega)]
    rw [h2]
    simp only [Builtin.zeroCells, Array.toList_map, List.getElem?_map, Array.getElem?_toList, hz]
    rw [Array.getElem?_eq_getElem (by simpa using hj)]
    simp only [Array.getElem_range, Option.map_some]
    rw [getElem!_pos z (j % k) (by omega)]
  · have h1 : (flatC (List.replicate m u))[j]? = none := List.getElem?_eq_none (by rw [flatC_length, List.length_replicate]; omega)
    have h2 : (Builtin.zeroCells z m).toList[j]? = none := List.getElem?_eq_none (by simp only [Builtin.zeroCells, Array.length_toList, Array.size_map, Array.size_range, hz]; omega)
    rw [h1, h2]
section
variable {P : Program} {n : Cx} {l : List (Nat × Value)} {w : World} {Q : Exit → Act → World → Prop} {K : Act → World → Prop} {ops : Array Oper} {os : List Oper} {ty : TypeId} {pos : String} {aft : Array Edge} {d : Nat}
theorem WL.appendGrow {k : Nat} {kp : 0 < k} {t e ti : TypeId} {bytes m c : Nat} {A : Option Addr} {us : List (Cells k)} {S : Nat → Prop} {s x : Operand} (hs : evl l s = some (.slice A us.length c)) (hx : evl l x = some (.int .i64 (m : Int))) (hT : P.underlying t = some (.slice e)) (hi : P.underlying ti = some (.int .i64))
    (hz : ElemZero P e k bytes) (hu : Sl (tRaw k kp) S w A c us) (hc : c < us.length + m) (h0 : 0 < m) (h1 : us.length ≤ 1000000) (h2 : m ≤ 1000000) (hby : Nat.ble bytes 1000 = true) (hd : Nat.blt d n.size = true)
    (kk : ∀ g c' w' (z : Cells k), Own (tRaw k kp) e w.heap.size No w' (some ⟨g, 0, none⟩) c' (us ++ List.replicate m z) → Ext w w' → WL P n ops Q K os ((d, .slice (some ⟨g, 0, none⟩) (us.length + m) c') :: l) w') :
    WL P n ops Q K (⟨some d, .call ⟨.builtin .append, #[s, x], #[t, ti]⟩, ty, pos, aft, none⟩ :: os) l w := by
  obtain ⟨i, z, z1, z2, z3, z4, z5, z6⟩ := hz.ex
  have hb : bytes ≤ 1000 := Nat.le_of_ble_eq_true hby
  have hmul : (us.length + m) * bytes ≤ 2000000 * 1000 := Nat.mul_le_mul (by omega) hb
  have hmul2 : m * bytes ≤ 1000000 * 1000 := Nat.mul_le_mul h2 hb
  have hold : (Builtin.firstCells i.size us.length (.slice A us.length c)).run P w.drew = .ok (flatC us).toArray w.drew := by
    rw [z3]
    by_cases hn : us.length = 0
    · have : us = [] := List.eq_nil_of_length_eq_zero hn
      subst this
      cases A <;> simp [Builtin.firstCells, loadCells, loadCellsFrom, flatC]
    · have hA : A = some (adr A) := hu.some_ (i := 0) (x := us[0]'(by omega)) (List.getElem?_eq_getElem _)
      rw [hA]
      exact run_firstCells_some w.drew k us.length (adr A) _ _ (flatC us) (flatC_length us) (fun j v hj => hu.raw_cells j v hj)
  obtain ⟨W2, hW2, hrun⟩ : ∃ W2, W2 = w.drew.alloc (.cells ((flatC us).toArray ++ Builtin.zeroCells z.cells m ++ Builtin.zeroCells z.cells (grownCap w (us.length + m) c e - (us.length + m))) e) ∧ (Builtin.append_ #[t, ti] ty #[.slice A us.length c, .int .i64 (m : Int)]).run P w = .ok (.slice (some ⟨w.heap.size, 0, none⟩) (us.length + m) (grownCap w (us.length + m) c e)) W2 := ⟨_, rfl, Lib.run_append_grow_zeros (P := P) w t ti ty e i z .i64 .i64 hT hi z1 z2 A us.length c (flatC us) hold m h0 (by omega) hc (by omega) (by rw [z4]; omega) (growslice_fits hc (by rw [z4]; omega))⟩
  refine WL.val (v := .slice (some ⟨w.heap.size, 0, none⟩) (us.length + m) (grownCap w (us.length + m) c e)) (fun a _ => wanted_none a) rfl hd (R := fun w2 => w2 = W2) (fun a ha => ⟨W2, ?_, rfl⟩) fun w2 e' => by
    rw [e', hW2]
    have hzc : z.cells.toList.length = k := by rw [Array.length_toList]; exact z5
    refine kk _ _ _ ⟨z.cells.toList, hzc, z6⟩ ?_ ⟨rfl, rfl, rfl, by simp, fun k hk => Below.heap_alloc w.drew _ k hk, Nat.le_succ _⟩
    have hf := fun m => zeroCells_flat (k := k) z.cells ⟨z.cells.toList, hzc, z6⟩ rfl m kp
    have hge := grownCap_ge w (us.length + m) c e
    have hle := grownCap_le_maxLen w (us.length + m) c e (by simp only [maxLen]; omega)
    refine Own.shut_ (cur := flatC us ++ flatC (List.replicate m ⟨z.cells.toList, hzc, z6⟩) ++ flatC (List.replicate (grownCap w (us.length + m) c e - (us.length + m)) ⟨z.cells.toList, hzc, z6⟩)) (Nat.le_refl _) ?_ ?_ ?_ ?_ ?_
    · rw [← hf, ← hf]
      have ea : (flatC us).toArray ++ Builtin.zeroCells z.cells m ++ Builtin.zeroCells z.cells (grownCap w (us.length + m) c e - (us.length + m)) = (flatC us ++ (Builtin.zeroCells z.cells m).toList ++ (Builtin.zeroCells z.cells (grownCap w (us.length + m) c e - (us.length + m))).toList).toArray := by
        apply Array.toList_inj.1; simp
      rw [ea]
      exact Bx.new w.drew e _
    · simpa using hge
    · exact hle
    · simp only [List.length_append, flatC_length, List.length_replicate, ← Nat.add_mul]; congr 1; omega
    · rw [List.take_append_of_le_length (by simp only [List.length_append, flatC_length, List.length_replicate, ← Nat.add_mul]; exact Nat.le_refl _), List.take_of_length_le (by simp only [List.length_append, flatC_length, List.length_replicate, ← Nat.add_mul]; exact Nat.le_refl _), flatC_append]
  unfold execOp
  simp only [resolve, Sem.run_bind, Sem.run_pure, Result.andThen_ok, invoke, builtin, List.map_toArray, List.map_cons, List.map_nil, ha.eval hs, ha.eval hx, hrun]
end

/-! ### one element of an own row is written -/
def overlay (cs : List Value) (f : Nat) (ds : List Value) : List Value := cs.take f ++ ds ++ cs.drop (f + ds.length)
section
variable {P : Program} {n : Cx} {l : List (Nat × Value)} {w : World} {Q : Exit → Act → World → Prop} {K : Act → World → Prop} {ops : Array Oper} {os : List Oper} {ty : TypeId} {pos : String} {aft : Array Edge} {d : Nat}
theorem Own.whole {α : Type} {τ : Ty α} {e : TypeId} {lo : Nat} {S : Nat → Prop} {A : Option Addr} {c : Nat} {xs : List α} (h : Own τ e lo S w A c xs) (hc : 0 < xs.length) :
    ∃ g cur us, A = some ⟨g, 0, none⟩ ∧ lo ≤ g ∧ Bx w g e cur ∧ xs.length ≤ c ∧ c ≤ maxLen ∧ cur.length = c * τ.k ∧ cur.take (xs.length * τ.k) = flatC us ∧ Rel τ S w xs us := by
  obtain ⟨us, h1, h2⟩ := h.raw
  have hcap := (h1.sl (S' := Any) (fun _ _ => trivial) (fun _ _ => trivial)).cap
  obtain ⟨g, cur, h3, h4, h5, h6, h7, h8, h9⟩ := h1.open_ (by rw [h2.1] at hcap; omega)
  rw [h2.1] at h6 h9
  exact ⟨g, cur, us, h3, h4, h5, h6, h7, h8, h9, h2⟩
theorem flatC_set {k : Nat} (us : List (Cells k)) (i f : Nat) (u v : Cells k) (ds : List Value) (hu : us[i]? = some u) (hv : v.1 = overlay u.1 f ds) (hf : f + ds.length ≤ k) :
    (flatC us).take (i * k + f) ++ ds ++ (flatC us).drop (i * k + f + ds.length) = flatC (us.set i v) := by
  have hi : i < us.length := lt_of_get hu
  have hsplit : us = us.take i ++ u :: us.drop (i + 1) := by
    rw [← List.getElem?_eq_some_iff.1 hu |>.2]
    rw [List.getElem_cons_drop, List.take_append_drop]
  have hset : us.set i v = us.take i ++ v :: us.drop (i + 1) := List.set_eq_take_append_cons_drop ▸ by rw [if_pos hi]
  have h0 := u.2.1
  have hl : (flatC (us.take i)).length = i * k := by rw [flatC_length, List.length_take, Nat.min_eq_left (by omega)]
  have e : flatC us = flatC (us.take i) ++ (u.1 ++ flatC (us.drop (i + 1))) := by
    conv => lhs; rw [hsplit]
    rw [flatC_append]; simp [flatC]
  rw [hset, flatC_append, e]
  have a1 : (flatC (us.take i)).take (i * k + f) = flatC (us.take i) := List.take_of_length_le (by omega)
  have a2 : (flatC (us.take i)).drop (i * k + f + ds.length) = [] := List.drop_of_length_le (by omega)
  rw [List.take_append, List.drop_append, hl, a1, a2, List.nil_append]
  rw [show i * k + f - i * k = f from by omega, show i * k + f + ds.length - i * k = f + ds.length from by omega]
  rw [List.take_append_of_le_length (by omega), List.drop_append_of_le_length (by omega)]
  simp only [flatC, List.map_cons, List.flatten_cons, hv, overlay, List.append_assoc]
theorem run_storeElem {α : Type} {τ : Ty α} {e t : TypeId} {lo f i c : Nat} {S : Nat → Prop} {A : Option Addr} {xs : List α} {x x' : α} {v : Value} {ds : List Value} (ho : Own τ e lo S w A c xs) (hx : xs[i]? = some x) (hv : v.cells = ds.toArray) (hs : Size P t ds.length)
    (hf : f + ds.length ≤ τ.k) (h1 : ∀ u ∈ ds, u.oneCell' = true) (hS : ∀ g, blk A = some g → ¬ S g) (hR : ∀ w' cs, Grw w w' (blk A) → τ.R S w x cs → τ.R S w' x' (overlay cs f ds)) :
    ∃ w', (Instr.storeAt t (.pointer (some ((adr A).add (i * τ.k + f)))) v).run P w = .ok () w' ∧ Own τ e lo S w' A c (xs.set i x') ∧ Grw w w' (blk A) ∧ w'.heap.size = w.heap.size := by
  have hi := lt_of_get hx
  obtain ⟨g, cur, us, rfl, hg, hb, hnc, hcm, hcl, ht, hrel⟩ := ho.whole (by omega)
  have hik : i * τ.k + τ.k ≤ xs.length * τ.k := by rw [← Nat.succ_mul]; exact Nat.mul_le_mul_right _ hi
  have hnk : xs.length * τ.k ≤ cur.length := by rw [hcl]; exact Nat.mul_le_mul_right _ hnc
  have had : (adr (some ⟨g, 0, none⟩)).add (i * τ.k + f) = ⟨g, i * τ.k + f, none⟩ := by simp [adr, Addr.add_lit]
  have hst := run_storeCells_at P g (i * τ.k + f) e ds 0 cur.toArray w hb (by simpa using by omega) h1
  have hgr := grownBy_setRow w g (cur.take (i * τ.k + f) ++ ds ++ cur.drop (i * τ.k + f + ds.length)).toArray
  obtain ⟨u, hu⟩ := get_some (xs := us) (i := i) (by rw [hrel.1]; exact hi)
  have hRu := hR _ _ hgr (hrel.2 i x u hx hu)
  refine ⟨_, ?_, ?_, hgr, by simp [World.setRow]⟩
  · rw [had]
    simp only [Instr.storeAt, Instr.sureAddr, storeVar, hv, Sem.run_bind, Sem.run_pure, Result.andThen_ok, hs w]
    simp only [List.size_toArray, ne_eq, not_true_eq_false, if_false, Sem.run_bind, Sem.run_pure, Result.andThen_ok]
    rw [hst]
    simp
  · let v' : Cells τ.k := ⟨overlay u.1 f ds, τ.len hRu, τ.one hRu⟩
    have hlen : (us.set i v').length = xs.length := by rw [List.length_set, hrel.1]
    refine Own.ofRaw (S' := No) (us := us.set i v') (Own.shut_ hg (setRow_heap w g _ _ e _ hb) (by rw [hlen]; exact hnc) hcm (by rw [length_splice_ (by omega)]; exact hcl) ?_) ⟨by rw [hlen, List.length_set], ?_⟩
    · rw [hlen, take_splice (by omega) hnk, ht, ← flatC_set us i f u v' ds hu rfl hf]
      congr 2
      rw [← ht, List.take_take, Nat.min_eq_left (by omega)]
    · intro j y u' hy hu'
      by_cases hj : i = j
      · subst hj
        rw [List.getElem?_set_self hi] at hy
        rw [List.getElem?_set_self (by rw [hrel.1]; exact hi)] at hu'
        cases hy; cases hu'
        exact hRu
      · rw [List.getElem?_set_ne hj] at hy hu'
        exact (hrel.grown hgr hS).2 j y u' hy hu'
theorem WL.storeElem {α : Type} {τ : Ty α} {e t : TypeId} {lo f i c : Nat} {S : Nat → Prop} {A : Option Addr} {xs : List α} {x x' : α} {v : Value} {ds : List Value} {p y : Operand} {q : Addr} (hp : evl l p = some (.pointer (some q))) (hy : evl l y = some v) (hq : q = (adr A).add (i * τ.k + f))
    (ho : Own τ e lo S w A c xs) (hx : xs[i]? = some x) (hv : v.cells = ds.toArray) (hs : Size P t ds.length)
    (hf : f + ds.length ≤ τ.k) (h1 : ∀ u ∈ ds, u.oneCell' = true) (hS : ∀ g, blk A = some g → ¬ S g) (hR : ∀ w' cs, Grw w w' (blk A) → τ.R S w x cs → τ.R S w' x' (overlay cs f ds))
    (kk : ∀ w', Own τ e lo S w' A c (xs.set i x') → Grw w w' (blk A) → w'.heap.size = w.heap.size → WL P n ops Q K os l w') : WL P n ops Q K (⟨none, .store t p y, ty, pos, aft, none⟩ :: os) l w := by
  obtain ⟨w', hrun, h2, h3, h4⟩ := run_storeElem (P := P) (f := f) (x' := x') ho hx hv hs hf h1 hS hR
  exact WL.unit (fun a _ => wanted_none a) rfl (R := fun w2 => w2 = w') (fun a ha => ⟨w', by unfold execOp; simp [ha.eval hp, ha.eval hy, hq, hrun], rfl⟩) fun w2 e => by rw [e]; exact kk w' h2 h3 h4

/-! ### the part of an own row behind its elements is cleared -/
theorem run_clearSpare {k : Nat} {kp : 0 < k} {t e ty : TypeId} {bytes lo c m : Nat} {S : Nat → Prop} {A : Option Addr} {us : List (Cells k)} (hT : P.underlying t = some (.slice e)) (hz : ElemZero P e k bytes) (ho : Own (tRaw k kp) e lo S w A c us) (hm : us.length + m ≤ c) :
    ∃ w', (Builtin.clear_ #[t] ty #[.slice (cutA A c us.length k) m (c - us.length)]).run P w = .ok (.tuple #[]) w' ∧ Own (tRaw k kp) e lo S w' A c us ∧ Grw w w' (blk A) ∧ w'.heap.size = w.heap.size := by
  by_cases h0 : m = 0
  · subst h0
    refine ⟨w, ?_, ho, ⟨rfl, rfl, rfl, Nat.le_refl _, fun _ _ _ => rfl, Nat.le_refl _⟩, rfl⟩
    cases hc : cutA A c us.length k <;> simp [Builtin.clear_, run_underlying hT]
  · obtain ⟨g, cur, rfl, hg, hb, hnc, hcm, hcl, ht⟩ := ho.open_ (by omega)
    obtain ⟨i, z, z1, z2, z3, z4, z5, z6⟩ := hz.ex
    have hzc : z.cells.toList.length = k := by rw [Array.length_toList]; exact z5
    have hf := zeroCells_flat (k := k) z.cells ⟨z.cells.toList, hzc, z6⟩ rfl m kp
    have hlen : (Builtin.zeroCells z.cells m).toList.length = m * k := by rw [hf, flatC_length, List.length_replicate]
    have hfit : us.length * k + (Builtin.zeroCells z.cells m).toList.length ≤ cur.length := by rw [hlen, ← Nat.add_mul, hcl]; exact Nat.mul_le_mul_right _ hm
    have hst := run_storeCells_at P g (us.length * k) e (Builtin.zeroCells z.cells m).toList 0 cur.toArray w hb (by simpa using hfit) (by rw [hf]; exact flatC_one)
    simp only [Nat.add_zero] at hst
    rw [cutA_some (by omega)]
    refine ⟨_, ?_, Own.shut_ hg (setRow_heap w g _ (cur.take (us.length * k) ++ (Builtin.zeroCells z.cells m).toList ++ cur.drop (us.length * k + (Builtin.zeroCells z.cells m).toList.length)).toArray e _ hb) hnc hcm (by rw [length_splice_ hfit]; exact hcl) ?_, grownBy_setRow w g _, by simp [World.setRow]⟩
    · obtain ⟨m', rfl⟩ : ∃ m', m = m' + 1 := ⟨m - 1, by omega⟩
      have hzv : ∀ w, (zeroValue e).run P w = .ok z w := fun w => by simp [zeroValue, typeInfo, z1, z2]
      simp only [Builtin.clear_, List.getElem?_toArray, List.getElem?_cons_zero, Sem.run_bind, Sem.run_pure, Result.andThen_ok, run_underlying hT, hzv]
      rw [hst]
      simp
    · rw [List.append_assoc, List.take_append_of_le_length (by simp only [List.length_take]; omega), List.take_take, Nat.min_self, ht]
end

/-! ### cuts of a row of which only the length counts; calls of what the model itself answers -/
section
variable {P : Program} {n : Cx} {l : List (Nat × Value)} {w : World} {t e : TypeId} {x : Operand}
theorem Ev.cutToN {k : Nat} {A : Option Addr} {m c hi : Nat} {kh : IntKind} {zh : Int} {yh : Operand} (hu : P.underlying t = some (.slice e)) (hs : Size P e k) (hx : evl l x = some (.slice A m c)) (hh : evl l yh = some (.int kh zh))
    (h2 : zh = (hi : Int)) (h4 : hi ≤ c) : Ev P n l w (.slice t x none (some yh) none) (.slice A hi c) := fun o a w' ho ha _ => by
  have hcz := cutA_zero A c k
  unfold cutA at hcz
  unfold execOp; rw [ho]
  have h6 : (Instr.sliceAt t (.slice A m c) none (some (.int kh zh)) none).run P w' = .ok (.slice A hi c) w' := by
    rw [run_sliceAt_slice w' t _ _ _ _ (elem_of hu), run_slice_h w' t A m c (elem_of hu) kh zh (by omega) (by omega), elem_is hu, hs w', h2]
    simp only [Result.andThen_ok, sliced, Int.toNat_natCast, Nat.sub_zero]
    rw [hcz]
  simp [ha.eval hx, ha.eval hh, h6]
theorem Ev.cutFromN {k : Nat} {A : Option Addr} {m c lo : Nat} {kl : IntKind} {zl : Int} {yl : Operand} (hu : P.underlying t = some (.slice e)) (hs : Size P e k) (hx : evl l x = some (.slice A m c)) (hl : evl l yl = some (.int kl zl))
    (h1 : zl = (lo : Int)) (h3 : lo ≤ m) (h5 : m ≤ c) : Ev P n l w (.slice t x (some yl) none none) (.slice (cutA A c lo k) (m - lo) (c - lo)) := fun o a w' ho ha _ => by
  unfold execOp; rw [ho]
  have h6 : (Instr.sliceAt t (.slice A m c) (some (.int kl zl)) none none).run P w' = .ok (.slice (cutA A c lo k) (m - lo) (c - lo)) w' := by
    rw [run_sliceAt_slice w' t _ _ _ _ (elem_of hu), run_slice_l w' t A m c (elem_of hu) kl zl (by omega) (by omega), elem_is hu, hs w', h1]
    simp [sliced, cutA]
  simp [ha.eval hx, ha.eval hl, h6]
end
section
variable {P : Program} {n : Cx} {l : List (Nat × Value)} {w : World} {Q : Exit → Act → World → Prop} {K : Act → World → Prop} {ops : Array Oper} {os : List Oper} {ty : TypeId} {pos : String} {aft : Array Edge} {d : Nat}
theorem WL.extern {fop : Operand} {args : List Operand} {tys : Array TypeId} {f : FuncId} {caps vs all : List Value} {v : Value}
    (hf : evl l fop = some (.func (.func f) #[] caps.toArray)) (hargs : evls l args = some vs) (hall : vs ++ caps = all) (hc : (callFunc f all.toArray).run P w = .ok (.value v) w) (hd : Nat.blt d n.size = true)
    (k : WL P n ops Q K os ((d, v) :: l) w) : WL P n ops Q K (⟨some d, .call ⟨.value fop, args.toArray, tys⟩, ty, pos, aft, none⟩ :: os) l w := by
  refine WL.val (v := v) (fun a _ => wanted_none a) rfl hd (R := fun w2 => w2 = w) (fun a ha => ⟨w, ?_, rfl⟩) fun w2 e => by rw [e]; exact k
  unfold execOp
  have h1 := ha.eval hf
  have h2 := ha.evals hargs
  simp only [resolve, h1, Deferred.ofValue, Sem.run_bind, Sem.run_pure, Result.andThen_ok, invoke]
  have : (#[] ++ Array.map a.eval args.toArray ++ caps.toArray : Array Value) = all.toArray := by
    rw [List.map_toArray, h2, ← hall]; simp
  rw [this]
  exact hc
theorem shape_bx {g : Nat} {t : TypeId} {cs : List Value} (h : Bx w g t cs) : w.shape? g = some (t, cs.length) := by
  unfold Bx at h; simp [World.shape?, h]
/-- slices.overlaps at two rows of cells -/
theorem run_overlaps_bx {f : FuncId} {fn : Func} {tS tR e : TypeId} {k gv g : Nat} {cs ds : List Value} {ev e2 : TypeId} {la ca ob lb cb : Nat} (hf : P.funcs[f]? = some fn) (hname : (fn.name == "runtime.NumGoroutine") = false) (hb : fn.body.isNone = true) (hn : Extern.findNext fn = none)
    (he : Extern.find fn = some (Extern.SlicesOverlaps.overlaps #[tS, tS] #[tR])) (ht : P.underlying tS = some (.slice e)) (hs : Size P e k) (hv : Bx w gv ev cs) (hg : Bx w g e2 ds) (hne : gv ≠ g) (h0 : 0 < ds.length) :
    (callFunc f #[.slice (some ⟨gv, 0, none⟩) la ca, .slice (some ⟨g, ob, none⟩) lb cb]).run P w = .ok (.value (.bool false)) w := by
  rw [run_callFunc_extern hf hname hb hn he]
  rw [Lib.run_overlaps_apart w tS tR e ht k hs ⟨gv, 0, none⟩ ⟨g, ob, none⟩ la ca lb cb hne ev e2 cs.length ds.length (shape_bx hv) (shape_bx hg) (by omega) (hv.frozen 0) (hv.frozen _)]
  rfl
end
/-! ### a region that draws, in which all but its last operation look at no memory -/
section
variable {P : Program} {n : Cx} {l l' : List (Nat × Value)} {w w' : World} {Q : Exit → Act → World → Prop} {K : Act → World → Prop} {ops : Array Oper} {fuel : Nat} {listed : Array Bool}
theorem WH.takeP (i : Nat) {op : Op} {ty : TypeId} {pos : String} {aft : Array Edge} {d : Nat} {v : Value} (hi : ops[i]? = some ⟨some d, op, ty, pos, aft, none⟩) (hs : Region.noSelect ops = true) (hf : Region.free .any ops listed i = true)
    (hr : (Region.ready .any ops listed).contains i = true) (he : ∀ w0, Ev P n l w0 op v) (hd : Nat.blt d n.size = true) (k : WH P n ops K (fun _ => True) fuel (listed.setIfInBounds i true) ((d, v) :: l) w) :
    WH P n ops K (fun _ => True) (fuel + 1) listed l w := fun a ha =>
  wpAnyH_take hi hs hf hr (fun _ _ _ h => h) (.inl ⟨wanted_none a, fun w' _ => he w' _ a w' rfl ha (Ext.refl w')⟩) trivial (k _ (ha.put hd v))
end

/-! ### insertion, as lists -/
theorem ins_end {α : Type} (us : List α) (u : α) {i : Nat} (h : i = us.length) : us.take i ++ [u] ++ us.drop i = us ++ [u] := by subst h; simp
theorem over_at {k : Nat} (a r vs : List (Cells k)) (i m : Nat) (h1 : a.length = i) (h2 : vs.length = m) (h3 : m ≤ r.length) : over (a ++ r) i vs = a ++ vs ++ r.drop m := by
  subst h1 h2
  have h4 : (a ++ r).take a.length = a := List.take_left' rfl
  have h5 : vs.take ((a ++ r).length - a.length) = vs := List.take_of_length_le (by rw [List.length_append]; omega)
  have h6 : (a ++ r).drop (a.length + vs.length) = r.drop vs.length := by
    have h7 : a.drop (a.length + vs.length) = [] := List.drop_of_length_le (by omega)
    rw [List.drop_append, h7, List.nil_append]
    congr 1; omega
  unfold over
  rw [h4, h5, h6]
theorem ins_over {k : Nat} (us : List (Cells k)) (u z : Cells k) {i : Nat} (h : i ≤ us.length) : over (over (us.take i ++ List.replicate (us.length + 1 - i) z) i [u]) (i + 1) (us.drop i) = us.take i ++ [u] ++ us.drop i := by
  have h1 : (us.take i).length = i := by simp only [List.length_take]; omega
  rw [over_at (us.take i) (List.replicate (us.length + 1 - i) z) [u] i 1 h1 rfl (by rw [List.length_replicate]; omega), List.drop_replicate]
  rw [over_at (us.take i ++ [u]) _ (us.drop i) (i + 1) (us.length - i) (by rw [List.length_append, h1]; rfl) (by rw [List.length_drop]) (by rw [List.length_replicate]; omega), List.drop_replicate]
  rw [show us.length + 1 - i - 1 - (us.length - i) = 0 from by omega, List.replicate_zero, List.append_nil]
theorem Ext.grown_own {w w1 w2 w3 : World} {g : Nat} {X : Option Nat} (e : Ext w w1) (h2 : Grw w1 w2 (some g)) (h3 : Grw w2 w3 (some g)) (hg : w.heap.size ≤ g) : Grw w w3 X :=
  have e2 : Ext w w3 := (e.mod (Mod.of_grown h2 (fun k hk => by cases hk; rfl)) hg).mod (Mod.of_grown h3 (fun k hk => by cases hk; rfl)) hg
  ⟨e2.os, e2.tape, e2.output, e2.size, fun k hk _ => e2.block k hk, e2.drawn⟩
theorem grownBy_same {w w1 w2 : World} {X : Option Nat} (h1 : Grw w w1 X) (h2 : Grw w1 w2 X) : Grw w w2 X :=
  ⟨h2.os.trans h1.os, h2.tape.trans h1.tape, h2.output.trans h1.output, Nat.le_trans h1.size h2.size, fun k hk hn => (h2.block k (Nat.lt_of_lt_of_le hk h1.size) hn).trans (h1.block k hk hn), Nat.le_trans h1.drawn h2.drawn⟩

theorem Rel.one {α : Type} {τ : Ty α} {S : Nat → Prop} {w : World} {x : α} {u : Cells τ.k} (h : τ.R S w x u.1) : Rel τ S w [x] [u] := by
  refine ⟨rfl, fun i y v hy hv => ?_⟩
  cases i with
  | zero => simp at hy hv; subst hy hv; exact h
  | succ i => simp at hy

/-! ### halves -/
section
variable {P : Program} {n : Cx} {l : List (Nat × Value)} {w : World} {t ty d : TypeId} {x y : Operand} {k k' : IntKind} {m : Nat}
theorem Ev.convNat (hs : (P.underlying t).isSome = true) (hd : P.underlying d = some (.int (P.intKind d))) (hk : P.intKind d = k') (hx : evl l x = some (.int k (m : Int))) (hw : k'.wrap (m : Int) = (m : Int)) : Ev P n l w (.convert t d x) (.int k' (m : Int)) := by
  have := Ev.convInt (P := P) (n := n) (w := w) hs hd hk hx
  rwa [hw] at this
theorem wrap_nat_u64 (h : m ≤ 9223372036854775807) : IntKind.u64.wrap (m : Int) = (m : Int) := by rw [IntKind.wrap_u64]; omega
theorem wrap_nat_i64 (h : m ≤ 9223372036854775807) : IntKind.i64.wrap (m : Int) = (m : Int) := (I64.mk (by omega) (by omega)).wrap
theorem Ev.shr1 (hx : evl l x = some (.int .u64 (m : Int))) (hy : evl l y = some (.int .u64 1)) : Ev P n l w (.binOp .shr t x y ty) (.int .u64 ((m / 2 : Nat) : Int)) := fun o a w' ho ha _ => by
  unfold execOp; rw [ho]
  have e : ((m / 2 : Nat) : Int) = (m : Int) / 2 ^ (1 : Int).toNat := by simp
  rw [e]
  simp [ha.eval hx, ha.eval hy, eqGuard_shr, binOp_shr, shift_shr .u64 .u64 (m : Int) 1 (by omega) (by decide)]
end
end Go.Proofs.YtjcklpooaaaglaaGreat
