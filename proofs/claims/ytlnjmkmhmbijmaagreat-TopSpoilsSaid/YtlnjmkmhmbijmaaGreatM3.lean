/- Regions that draw their order, walked in every order; numbers as floats; calls of what came in. -/
import Derived.Test.YtlnjmkmhmbijmaaGreatM2
import Derived.OrdersHeld
set_option linter.all false
namespace Go.Proofs.YtlnjmkmhmbijmaaGreat
open Go.RowKit

/-! ### a region that draws: whatever order -/
def Only (K : Act → World → Prop) : Exit → Act → World → Prop
  | .normal, a, w => K a w
  | _, _, _ => False
/-- whatever order is picked from here on; S holds behind each operation -/
def WH (P : Program) (n : Cx) (ops : Array Oper) (K : Act → World → Prop) (S : World → Prop) (fuel : Nat) (listed : Array Bool) (l : List (Nat × Value)) (w : World) : Prop :=
  ∀ a, Has n l a → wpAnyH P .any ops (Only K) S fuel listed a w
def HK (P : Program) (ops : Array Oper) (K : Act → World → Prop) (S : World → Prop) (fuel : Nat) (listed : Array Bool) : Act → World → Prop :=
  fun a w => S w ∧ wpAnyH P .any ops (Only K) S fuel listed a w
/-- what the region comes to -/
def JK (n : Cx) (J : List (Nat × Value) → World → Prop) : Act → World → Prop := fun a w => ∃ l, Has n l a ∧ J l w

section
variable {P : Program} {n : Cx} {l l' : List (Nat × Value)} {w w' : World} {Q : Exit → Act → World → Prop} {K : Act → World → Prop} {ops : Array Oper} {S : World → Prop} {fuel : Nat} {listed : Array Bool}

theorem WP.held {ol : List Oper} {id : Nat} {y : Code} (S : World → Prop) (J : List (Nat × Value) → World → Prop) (hm : P.follows .mixedOrders = true)
    (h : WH P n ol.toArray (JK n J) S ol.length (List.replicate ol.length false).toArray l w.drew) (k : ∀ l' w', J l' w' → WP P n y l' w' Q) (hro : n.round = none := by rfl) : WP P n (.seq (.region id ol.toArray true) y) l w Q := fun a ha => by
  refine wpIn_seq ?_
  have e : n.fence = Fence.wide := Cx.fence_wide hro
  suffices hx : (Code.region id ol.toArray true).wp P (Exit.then (cwp P n y Q) Q) a w by
    show (Code.region id ol.toArray true).wpIn n.fence 0 P (Exit.then (cwp P n y Q) Q) a w
    rw [e]
    exact wpIn_wide.2 hx
  refine wp_mono (wp_region_held (Q := Only (JK n J)) (S := S) hm ?_) ?_
  · have := h a ha
    simpa using this
  · intro e a' w' hq
    cases e with
    | normal => obtain ⟨l', h1, h2⟩ := hq; exact k l' w' h2 a' h1
    | _ => exact hq.elim
theorem WP.held_end {ol : List Oper} {id : Nat} (S : World → Prop) (J : List (Nat × Value) → World → Prop) (hm : P.follows .mixedOrders = true)
    (h : WH P n ol.toArray (JK n J) S ol.length (List.replicate ol.length false).toArray l w.drew) (k : ∀ l' w', J l' w' → Pst n Q .normal l' w') (hro : n.round = none := by rfl) : WP P n (.region id ol.toArray true) l w Q := fun a ha => by
  rw [Cx.fence_wide hro]
  refine wpIn_wide.2 ?_
  refine wp_mono (wp_region_held (Q := Only (JK n J)) (S := S) hm ?_) ?_
  · have := h a ha
    simpa using this
  · intro e a' w' hq
    cases e with
    | normal => obtain ⟨l', h1, h2⟩ := hq; exact k l' w' h2 a' h1
    | _ => exact hq.elim
theorem WH.done {J : List (Nat × Value) → World → Prop} (l' : List (Nat × Value)) (hr : Region.ready .any ops listed = []) (hs : Subs l l') (hJ : J l' w) : WH P n ops (JK n J) S fuel listed l w :=
  fun _ ha => wpAnyH_done hr ⟨l', ha.subs hs, hJ⟩ fuel
/-- an operation that only reads is taken first -/
theorem WH.take {w0 : World} (i : Nat) {op : Op} {ty : TypeId} {pos : String} {aft : Array Edge} {d : Nat} {v : Value} (hi : ops[i]? = some ⟨some d, op, ty, pos, aft, none⟩) (hs : Region.noSelect ops = true) (hf : Region.free .any ops listed i = true)
    (hr : (Region.ready .any ops listed).contains i = true) (he : Ev P n l w0 op v) (hd : Nat.blt d n.size = true) (hw : Ext w0 w) (k : WH P n ops K (fun w' => Ext w0 w') fuel (listed.setIfInBounds i true) ((d, v) :: l) w) :
    WH P n ops K (fun w' => Ext w0 w') (fuel + 1) listed l w := fun a ha =>
  wpAnyH_take hi hs hf hr (fun _ _ _ h => h) (.inl ⟨wanted_none a, fun w' hw' => he _ a w' rfl ha hw'⟩) hw (k _ (ha.put hd v))
theorem WH.takeg {w0 : World} (i : Nat) {op : Op} {ty : TypeId} {pos : String} {aft : Array Edge} {d j : Nat} {want : Bool} {v : Value} (hi : ops[i]? = some ⟨some d, op, ty, pos, aft, some (j, want)⟩) (hg : guardOf ops l j = some (.bool want)) (hs : Region.noSelect ops = true) (hf : Region.free .any ops listed i = true)
    (hr : (Region.ready .any ops listed).contains i = true) (he : Ev P n l w0 op v) (hd : Nat.blt d n.size = true) (hw : Ext w0 w) (k : WH P n ops K (fun w' => Ext w0 w') fuel (listed.setIfInBounds i true) ((d, v) :: l) w) :
    WH P n ops K (fun w' => Ext w0 w') (fuel + 1) listed l w := fun a ha =>
  wpAnyH_take hi hs hf hr (fun _ _ _ h => h) (.inl ⟨wanted_some hg a ha, fun w' hw' => he _ a w' rfl ha hw'⟩) hw (k _ (ha.put hd v))
/-- whichever may come up -/
theorem WH.all {rs : List Nat} (hr : Region.ready .any ops listed = rs) (hne : rs ≠ [])
    (h : ∀ i ∈ rs, ∃ o, ops[i]? = some o ∧ WL P n.asPlain ops (Only K) (HK P ops K S fuel (listed.setIfInBounds i true)) [o] l w) : WH P n ops K S (fuel + 1) listed l w := fun a ha =>
  wpAnyH_all hr hne fun i hi => by
    obtain ⟨o, ho, hk⟩ := h i hi
    have h1 := hk a ⟨ha.defers, ha.size, ha.get⟩
    unfold wpK at h1
    unfold wpOp
    rw [ho]
    show (if Region.wanted o (yielded ops a.tmps) then _ else _)
    split
    · rename_i hw
      rw [if_pos hw] at h1
      exact .inl h1
    · rename_i hw
      rw [if_neg hw] at h1
      exact h1
theorem WH.next (hS : S w) (h : WH P n ops K S fuel listed l w) : WL P n.asPlain ops (Only K) (HK P ops K S fuel listed) [] l w := fun a ha => ⟨hS, h a ⟨ha.defers, ha.size, ha.get⟩⟩
end

/-! ### structs held against each other -/
section
variable {P : Program} {n : Cx} {l : List (Nat × Value)} {w : World} {t ty : TypeId} {x y : Operand}
theorem Ev.eqS {xs ys : Array Value} {b : Bool} (hx : evl l x = some (.agg xs)) (hy : evl l y = some (.agg ys)) (heq : ∀ w, (Op.equalIn 10000 t (.agg xs) (.agg ys)).run P w = .ok b w) (hm : P.eqGuardType P.depth t = false) : Ev P n l w (.binOp .eql t x y ty) (.bool b) := fun o a w' ho ha _ => by
  unfold execOp; rw [ho]
  simp [ha.eval hx, ha.eval hy, run_eqGuard_agg w' .eql t x y xs ys hm, run_eql_struct, heq]
theorem Ev.neS {xs ys : Array Value} {b : Bool} (hx : evl l x = some (.agg xs)) (hy : evl l y = some (.agg ys)) (heq : ∀ w, (Op.equalIn 10000 t (.agg xs) (.agg ys)).run P w = .ok b w) (hm : P.eqGuardType P.depth t = false) : Ev P n l w (.binOp .neq t x y ty) (.bool (!b)) := fun o a w' ho ha _ => by
  unfold execOp; rw [ho]
  simp [ha.eval hx, ha.eval hy, run_eqGuard_agg w' .neq t x y xs ys hm, run_neq_struct, heq]
end

/-! ### make by append -/
section
variable {P : Program} {n : Cx} {l : List (Nat × Value)} {w : World} {Q : Exit → Act → World → Prop} {K : Act → World → Prop} {ops : Array Oper} {os : List Oper} {ty : TypeId} {pos : String} {aft : Array Edge} {d : Nat}
/-- 'append(nil[:0], make([]T, n)...)', cut back to nothing: an own row with room -/
theorem run_append_zeros {α : Type} (τ : Ty α) {t e ti : TypeId} {bytes : Nat} (hT : P.underlying t = some (.slice e)) (hi : P.underlying ti = some (.int .i64)) (hI : ElemInfo P e τ.k bytes) (m : Nat) (h0 : 0 < m) (hm : m ≤ 1000000) (hby : Nat.ble bytes 1000 = true) (r : TypeId) :
    ∃ g c w', (Builtin.append_ #[t, ti] r #[.slice none 0 0, .int .i64 (m : Int)]).run P w = .ok (.slice (some ⟨g, 0, none⟩) m c) w' ∧ Ext w w' ∧ Own τ e w.heap.size No w' (some ⟨g, 0, none⟩) c [] := by
  obtain ⟨i, z, h1, h2, h3, h4, h5⟩ := hI.ex
  have hb : bytes ≤ 1000 := Nat.le_of_ble_eq_true hby
  have hw : IntKind.i64.wrap (m : Int) = (m : Int) := (I64.mk (by omega) (by omega)).wrap
  have hmb : m * bytes ≤ 1000000 * 1000 := Nat.mul_le_mul hm hb
  have hmb' : (m : Int) * (bytes : Int) ≤ 1000000000 := by
    have : ((m * bytes : Nat) : Int) ≤ 1000000000 := by omega
    rwa [Int.natCast_mul] at this
  have hnx : Builtin.nextslicecap m 0 = m := nextslicecap_zero h0
  have hz1 : z.cells.size = τ.k := h5
  refine ⟨w.heap.size, grownCap w m 0 e, (w.drew).alloc (.cells ((#[] : Array Value) ++ Builtin.zeroCells z.cells m ++ Builtin.zeroCells z.cells (grownCap w m 0 e - m)) e), ?_, ?_, ?_⟩
  · have hcond : ¬ (m : Int) * (bytes : Int) > 2 ^ 48 := by omega
    have hcond2 : ¬ m * bytes > 2 ^ 48 := by omega
    have hf : (Question.appendCap m 0 e).forced = false := rfl
    have hne : ¬ m * τ.k = 0 := by
      have := τ.pos
      intro h
      rcases Nat.mul_eq_zero.1 h with h | h <;> omega
    have hmx : ¬ (IntKind.i64.max < (m : Int)) := by
      have e2 : IntKind.i64.max = 9223372036854775807 := by decide
      omega
    simp [Builtin.append_, run_underlying hT, run_underlying hi, sizeOf, typeInfo, h1, h2, h3, h4, asInt, asIntOf, hw, zeroValue, Builtin.firstCells, newRow, hne, hf, hnx, hcond2, hmx]
    have hm0 : ¬ (m : Int) < 0 := by omega
    have hm1 : ¬ (281474976710656 < (m : Int) * (bytes : Int)) := by omega
    have hm2 : ¬ (m ≤ 0) := by omega
    have hm3 : ¬ (m = 0) := by omega
    have hm4 : ¬ (281474976710656 < m * bytes) := by omega
    have hm5 : ¬ (9223372036854775807 < (m : Int)) := by omega
    simp [hm0, hm1, hm2, hm3, hm4, hm5, grownCap]
  · exact ⟨rfl, rfl, rfl, by simp, fun k hk => Below.heap_alloc w.drew _ k hk, Nat.le_succ _⟩
  · have hge := grownCap_ge w m 0 e
    have hle := grownCap_le_maxLen w m 0 e (by simp only [maxLen]; omega)
    refine ⟨[], rfl, fun i x hx => by simp at hx, by simp, .inr ⟨w.heap.size, _, _, rfl, Nat.le_refl _, heap_alloc_new w.drew _, Nat.zero_le _, hle, ?_, by simp⟩⟩
    simp only [Array.size_append, List.size_toArray, List.length_nil, Nat.zero_add, size_zeroCells, hz1, ← Nat.add_mul]
    congr 1
    omega
theorem WL.appendZeros {α : Type} (τ : Ty α) {t e ti : TypeId} {bytes m : Nat} {s x : Operand} (hs : evl l s = some (.slice none 0 0)) (hx : evl l x = some (.int .i64 (m : Int))) (hT : P.underlying t = some (.slice e)) (hi : P.underlying ti = some (.int .i64)) (hI : ElemInfo P e τ.k bytes) (h0 : 0 < m) (hm : m ≤ 1000000) (hby : Nat.ble bytes 1000 = true) (hd : Nat.blt d n.size = true)
    (k : ∀ g c w', Ext w w' → Own τ e w.heap.size No w' (some ⟨g, 0, none⟩) c [] → WL P n ops Q K os ((d, .slice (some ⟨g, 0, none⟩) m c) :: l) w') :
    WL P n ops Q K (⟨some d, .call ⟨.builtin .append, #[s, x], #[t, ti]⟩, ty, pos, aft, none⟩ :: os) l w := by
  obtain ⟨g, c, w', hrun, h1, h2⟩ := run_append_zeros (P := P) (w := w) τ hT hi hI m h0 hm hby ty
  refine WL.val (v := .slice (some ⟨g, 0, none⟩) m c) (fun a _ => wanted_none a) rfl hd (R := fun w2 => w2 = w') (fun a ha => ⟨w', ?_, rfl⟩) fun w2 e => by rw [e]; exact k g c w' h1 h2
  unfold execOp
  simp only [resolve, Sem.run_bind, Sem.run_pure, Result.andThen_ok, invoke, builtin, List.map_toArray, List.map_cons, List.map_nil, ha.eval hs, ha.eval hx, hrun]
end

/-! ### labels -/
def AnyJ (n : Cx) (J : Nat → List (Nat × Value) → World → Prop) (a : Act) (w : World) : Prop := ∃ m l, Has n l a ∧ J m l w
section
variable {P : Program} {n : Cx} {l : List (Nat × Value)} {w : World} {Q : Exit → Act → World → Prop}
theorem jump_mono {c : Code} {lb : Nat} {a : Act} {R R' : Act → World → Prop} (h : c.wpIn n.fence 0 P (Exit.jump lb R Q) a w) (hr : ∀ a w, R a w → R' a w) : c.wpIn n.fence 0 P (Exit.jump lb R' Q) a w := by
  refine wpIn_mono h ?_
  intro e a' w' hq
  cases e with
  | goto l' => exact ⟨hq.1, hr _ _ hq.2⟩
  | _ => exact hq
theorem WP.jumps {c rest : Code} {lb : Nat} (J : Nat → List (Nat × Value) → World → Prop) (hf : findLabel c lb = some (.seq .skip rest))
    (pass : ∀ m l w, J m l w → WP P n rest l w (Exit.jump lb (Again n J m) Q))
    (first : (∀ m l w, J m l w → WP P n (.seq (.label lb) rest) l w (Exit.jump lb (AnyJ n J) Q)) → WP P n c l w (Exit.jump lb (AnyJ n J) Q)) (hro : n.round = none := by rfl) : WP P n (.scope c) l w Q := by
  intro a ha
  have e : n.fence = Fence.wide := Cx.fence_wide hro
  rw [e]
  refine wpIn_wide.2 ?_
  refine wp_scope_jumps lb (AnyJ n J) (fun a w => leastOf fun m => ∃ l, Has n l a ∧ J m l w) hf ?_ ?_
  · have h1 := first ?_ a ha
    · rw [e] at h1; exact wpIn_wide.1 h1
    · intro m l w hJ a ha
      refine wpIn_seq (wpIn_label ?_)
      exact jump_mono (pass m l w hJ a ha) fun a w ⟨m', l', _, h1, h2⟩ => ⟨m', l', h1, h2⟩
  · intro a w hJ
    obtain ⟨⟨l, h1, h2⟩, _⟩ := leastOf_spec (p := fun m => ∃ l, Has n l a ∧ J m l w) hJ
    refine wp_seq (wp_skip ?_)
    have h6 := pass _ l w h2 a h1
    rw [e] at h6
    refine wp_mono (wpIn_wide.1 h6) ?_
    intro e' a' w' hq
    cases e' with
    | goto l' =>
      refine ⟨hq.1, ?_⟩
      obtain ⟨m', l', hlt, h3, h4⟩ := hq.2
      exact ⟨⟨m', l', h3, h4⟩, Nat.lt_of_le_of_lt ((leastOf_spec (p := fun m => ∃ l, Has n l a' ∧ J m l w') ⟨m', l', h3, h4⟩).2 m' ⟨l', h3, h4⟩) hlt⟩
    | _ => exact hq
theorem Pst.jump_again {lb : Nat} {J : Nat → List (Nat × Value) → World → Prop} {m : Nat} (m' : Nat) (l' : List (Nat × Value)) (hs : Subs l l') (hm : m' < m) (hJ : J m' l' w) : Pst n (Exit.jump lb (Again n J m) Q) (.goto lb) l w :=
  fun _ ha => ⟨rfl, m', l', hm, ha.subs hs, hJ⟩
theorem Pst.jump_ret {lb : Nat} {R : Act → World → Prop} (h : Pst n Q .ret l w) : Pst n (Exit.jump lb R Q) .ret l w := fun a ha => h a ha
theorem Pst.jump_exit {lb i : Nat} {R : Act → World → Prop} (h : Pst n Q (.exit i) l w) : Pst n (Exit.jump lb R Q) (.exit i) l w := fun a ha => h a ha
theorem Pst.jump_norm {lb : Nat} {R : Act → World → Prop} (h : Pst n Q .normal l w) : Pst n (Exit.jump lb R Q) .normal l w := fun a ha => h a ha
theorem WP.goto {i : Nat} (h : Pst n Q (.goto i) l w) : WP P n (.goto i) l w Q := fun a ha => wpIn_goto (h a ha)
end

/-! ### rows of slices; cuts -/
/-- an element that is itself a slice -/
def Ty.list {α : Type} (τ : Ty α) : Ty (List α) where
  k := 1
  pos := by decide
  R := fun S w xs cs => ∃ A c, cs = [.slice A xs.length c] ∧ Sl τ S w A c xs
  len := fun ⟨A, c, h, _⟩ => by rw [h]; rfl
  one := fun ⟨A, c, h, _⟩ => by rw [h]; intro u hu; simp at hu; rw [hu]; rfl
  keep := fun m ⟨A, c, h, hs⟩ => ⟨A, c, h, hs.keep m⟩
  sub := fun hS ⟨A, c, h, hs⟩ => ⟨A, c, h, hs.sub hS⟩
  bd := fun ⟨A, c, h, hs⟩ => ⟨A, c, h, hs.bd⟩
theorem Sl.list_at {α : Type} {τ : Ty α} {S : Nat → Prop} {w : World} {A : Option Addr} {c : Nat} {xss : List (List α)} (h : Sl (Ty.list τ) S w A c xss) {i : Nat} {xs : List α} (hx : xss[i]? = some xs) :
    ∃ B d, w.cell? ((adr A).add (i * 1)) = some (.slice B xs.length d) ∧ Sl τ S w B d xs := by
  obtain ⟨_, cs, ⟨B, d, h1, h2⟩, h3⟩ := h.rows i xs hx
  subst h1
  exact ⟨B, d, h3 0 _ rfl, h2⟩
theorem Bx.list_two {α : Type} {τ : Ty α} {e : TypeId} {w : World} {g : Nat} {A B : Option Addr} {c d : Nat} {xs ys : List α} {S S' : Nat → Prop} (h : Bx w g e [.slice A xs.length c, .slice B ys.length d]) (hx : Sl τ S w A c xs) (hy : Sl τ S' w B d ys) : Sl (Ty.list τ) Any w (some ⟨g, 0, none⟩) 2 [xs, ys] := by
  refine ⟨by simp, by simp [maxLen], (fun h => by cases h), fun i zs hz => ⟨trivial, ?_⟩⟩
  have had : ∀ j, (adr (some ⟨g, 0, none⟩)).add j = ⟨g, j, none⟩ := fun j => by simp [adr, Addr.add_lit]
  rcases i with _ | _ | i
  · simp at hz; subst hz
    refine ⟨_, ⟨A, c, rfl, hx.sub Any.sub⟩, fun j u hu => ?_⟩
    rcases j with _ | j
    · simp at hu; subst hu; rw [had, h.cell]; rfl
    · simp at hu
  · simp at hz; subst hz
    refine ⟨_, ⟨B, d, rfl, hy.sub Any.sub⟩, fun j u hu => ?_⟩
    rcases j with _ | j
    · simp at hu; subst hu; rw [had, h.cell]; rfl
    · simp at hu
  · simp at hz
/-- where a slice that is cut at lo begins -/
def cutA (A : Option Addr) (c lo k : Nat) : Option Addr := if c = lo then A else A.map (·.add (lo * k))
theorem cutA_zero (A : Option Addr) (c k : Nat) : cutA A c 0 k = A := by
  unfold cutA
  split
  · rfl
  · cases A <;> simp [Addr.add_zero']
theorem Sl.cut {α : Type} {τ : Ty α} {S : Nat → Prop} {w : World} {A : Option Addr} {c : Nat} {xs : List α} (h : Sl τ S w A c xs) {lo hi : Nat} (h1 : lo ≤ hi) (h2 : hi ≤ xs.length) : Sl τ S w (cutA A c lo τ.k) (c - lo) ((xs.take hi).drop lo) := by
  have hc := h.cap
  refine ⟨by simp only [List.length_drop, List.length_take]; omega, by have := h.max; omega, ?_, ?_⟩
  · intro hn
    unfold cutA at hn
    split at hn
    · omega
    · have := h.nil (by simpa using hn); omega
  · intro i x hx
    rw [List.getElem?_drop, List.getElem?_take] at hx
    split at hx
    · rename_i hlt
      obtain ⟨hS, cs, hR, hcs⟩ := h.rows _ x hx
      have hA := h.some_ hx
      have hne : ¬ c = lo := by omega
      have ha : adr (cutA A c lo τ.k) = (adr A).add (lo * τ.k) := by
        unfold cutA
        rw [if_neg hne, hA]
        simp [adr]
      rw [ha, block_of_add]
      refine ⟨hS, cs, hR, fun j u hu => ?_⟩
      rw [add_of_add]
      have := hcs j u hu
      rwa [show (lo + i) * τ.k + j = lo * τ.k + (i * τ.k + j) from by rw [Nat.add_mul]; omega] at this
    · cases hx
theorem Sl.cutTo {α : Type} {τ : Ty α} {S : Nat → Prop} {w : World} {A : Option Addr} {c : Nat} {xs : List α} (h : Sl τ S w A c xs) {hi : Nat} (h2 : hi ≤ xs.length) : Sl τ S w A c (xs.take hi) := by
  have := h.cut (lo := 0) (Nat.zero_le _) h2
  rwa [cutA_zero, Nat.sub_zero, List.drop_zero] at this
theorem Sl.cutFrom {α : Type} {τ : Ty α} {S : Nat → Prop} {w : World} {A : Option Addr} {c : Nat} {xs : List α} (h : Sl τ S w A c xs) {lo : Nat} (h1 : lo ≤ xs.length) : Sl τ S w (cutA A c lo τ.k) (c - lo) (xs.drop lo) := by
  have := h.cut h1 (Nat.le_refl _)
  rwa [List.take_length] at this
theorem Own.take {α : Type} {τ : Ty α} {e : TypeId} {lo : Nat} {S : Nat → Prop} {w : World} {A : Option Addr} {c : Nat} {xs : List α} (h : Own τ e lo S w A c xs) {hi : Nat} (h2 : hi ≤ xs.length) : Own τ e lo S w A c (xs.take hi) := by
  obtain ⟨css, hl, hR, hown⟩ := h
  have hk := css_len hl hR
  have hlen : (xs.take hi).length = hi := by simp only [List.length_take]; omega
  have hflat : ∀ (cs : List (List Value)) (m : Nat), (∀ c ∈ cs, c.length = τ.k) → (cs.take m).flatten = cs.flatten.take (m * τ.k) := by
    intro cs
    induction cs with
    | nil => intro m _; simp
    | cons c0 cs ih =>
      intro m hm
      cases m with
      | zero => simp
      | succ m =>
        have h0 := hm c0 (by simp)
        have e1 : c0.take ((m + 1) * τ.k) = c0 := List.take_of_length_le (by rw [h0, Nat.add_mul]; omega)
        have e2 : (m + 1) * τ.k - τ.k = m * τ.k := by rw [Nat.add_mul]; omega
        rw [List.take_succ_cons, List.flatten_cons, List.flatten_cons, ih m (fun c hc => hm c (by simp [hc])), List.take_append, e1, h0, e2]
  refine ⟨css.take hi, by simp only [List.length_take, hl], fun i x hx => ?_, ?_⟩
  · rw [List.getElem?_take] at hx
    split at hx
    · rename_i hlt
      obtain ⟨cs, h3, h4⟩ := hR i x hx
      exact ⟨cs, by rw [List.getElem?_take, if_pos hlt]; exact h3, h4⟩
    · cases hx
  · rw [hlen]
    refine ⟨?_, ?_⟩
    · rw [hflat css hi hk, List.length_take, hown.1]
      exact Nat.min_eq_left (Nat.mul_le_mul_right _ h2)
    · rcases hown.2 with ⟨hv, hn⟩ | ⟨g, cap, cur, hv, hg, hh, hnc, hcm, hcs, ht⟩
      · left
        injection hv with hA hn' hc
        subst hA hc
        have : hi = 0 := by omega
        subst this
        exact ⟨rfl, rfl⟩
      · right
        injection hv with hA hn' hc
        subst hA hc
        refine ⟨g, c, cur, rfl, hg, hh, by omega, hcm, hcs, ?_⟩
        rw [hflat css hi hk, ← ht, List.take_take, Nat.min_eq_left (Nat.mul_le_mul_right _ h2)]
section
variable {P : Program} {n : Cx} {l : List (Nat × Value)} {w : World} {t e : TypeId} {x : Operand}
theorem Ev.cut {α : Type} {k : Nat} {A : Option Addr} {c lo hi : Nat} {xs : List α} {kl kh : IntKind} {zl zh : Int} {yl yh : Operand} (hu : P.underlying t = some (.slice e)) (hs : Size P e k) (hx : evl l x = some (.slice A xs.length c)) (hl : evl l yl = some (.int kl zl)) (hh : evl l yh = some (.int kh zh))
    (h1 : zl = (lo : Int)) (h2 : zh = (hi : Int)) (h3 : lo ≤ hi) (h4 : hi ≤ xs.length) (h5 : xs.length ≤ c) : Ev P n l w (.slice t x (some yl) (some yh) none) (.slice (cutA A c lo k) ((xs.take hi).drop lo).length (c - lo)) := fun o a w' ho ha _ => by
  have hlen : ((xs.take hi).drop lo).length = hi - lo := by simp only [List.length_drop, List.length_take]; omega
  unfold execOp; rw [ho]
  have h6 : (Instr.sliceAt t (.slice A xs.length c) (some (.int kl zl)) (some (.int kh zh)) none).run P w' = .ok (.slice (cutA A c lo k) (hi - lo) (c - lo)) w' := by
    rw [run_sliceAt_slice w' t _ _ _ _ (elem_of hu), run_slice_lh w' t A xs.length c (elem_of hu) kl kh zl zh (by omega) (by omega) (by omega), elem_is hu, hs w', h1, h2]
    simp [sliced, cutA]
  simp [ha.eval hx, ha.eval hl, ha.eval hh, h6, hlen]
theorem Ev.cutTo {α : Type} {k : Nat} {A : Option Addr} {c hi : Nat} {xs : List α} {kh : IntKind} {zh : Int} {yh : Operand} (hu : P.underlying t = some (.slice e)) (hs : Size P e k) (hx : evl l x = some (.slice A xs.length c)) (hh : evl l yh = some (.int kh zh))
    (h2 : zh = (hi : Int)) (h4 : hi ≤ xs.length) (h5 : xs.length ≤ c) : Ev P n l w (.slice t x none (some yh) none) (.slice A (xs.take hi).length c) := fun o a w' ho ha _ => by
  have hlen : (xs.take hi).length = hi := by simp only [List.length_take]; omega
  have hcz := cutA_zero A c k
  unfold cutA at hcz
  unfold execOp; rw [ho]
  have h6 : (Instr.sliceAt t (.slice A xs.length c) none (some (.int kh zh)) none).run P w' = .ok (.slice A hi c) w' := by
    rw [run_sliceAt_slice w' t _ _ _ _ (elem_of hu), run_slice_h w' t A xs.length c (elem_of hu) kh zh (by omega) (by omega), elem_is hu, hs w', h2]
    simp only [Result.andThen_ok, sliced, Int.toNat_natCast, Nat.sub_zero]
    rw [hcz]
  simp [ha.eval hx, ha.eval hh, h6, hlen]
/-- 's[:0]' -/
theorem Ev.cutZero {k : Nat} {A : Option Addr} {m c : Nat} {kh : IntKind} {zh : Int} {yh : Operand} (hu : P.underlying t = some (.slice e)) (hs : Size P e k) (hx : evl l x = some (.slice A m c)) (hh : evl l yh = some (.int kh zh)) (h2 : zh = 0) : Ev P n l w (.slice t x none (some yh) none) (.slice A 0 c) := fun o a w' ho ha _ => by
  have hcz := cutA_zero A c k
  unfold cutA at hcz
  unfold execOp; rw [ho]
  have h6 : (Instr.sliceAt t (.slice A m c) none (some (.int kh zh)) none).run P w' = .ok (.slice A 0 c) w' := by
    rw [run_sliceAt_slice w' t _ _ _ _ (elem_of hu), run_slice_h w' t A m c (elem_of hu) kh zh (by omega) (by omega), elem_is hu, hs w', h2]
    simp only [Result.andThen_ok, sliced, Int.toNat_zero, Nat.sub_zero]
    rw [hcz]
  simp [ha.eval hx, ha.eval hh, h6]
theorem Ev.cutFrom {α : Type} {k : Nat} {A : Option Addr} {c lo : Nat} {xs : List α} {kl : IntKind} {zl : Int} {yl : Operand} (hu : P.underlying t = some (.slice e)) (hs : Size P e k) (hx : evl l x = some (.slice A xs.length c)) (hl : evl l yl = some (.int kl zl))
    (h1 : zl = (lo : Int)) (h3 : lo ≤ xs.length) (h5 : xs.length ≤ c) : Ev P n l w (.slice t x (some yl) none none) (.slice (cutA A c lo k) (xs.drop lo).length (c - lo)) := fun o a w' ho ha _ => by
  have hlen : (xs.drop lo).length = xs.length - lo := by simp only [List.length_drop]
  unfold execOp; rw [ho]
  have h6 : (Instr.sliceAt t (.slice A xs.length c) (some (.int kl zl)) none none).run P w' = .ok (.slice (cutA A c lo k) (xs.length - lo) (c - lo)) w' := by
    rw [run_sliceAt_slice w' t _ _ _ _ (elem_of hu), run_slice_l w' t A xs.length c (elem_of hu) kl zl (by omega) (by omega), elem_is hu, hs w', h1]
    simp [sliced, cutA]
  simp [ha.eval hx, ha.eval hl, h6, hlen]
end

/-! ### counts as floats -/
theorem fb_zero : FloatKind.f64.nearest 0 = 0 := by decide +kernel
def fb (n : Nat) : Nat := FloatKind.f64.nearest (n : Int)
theorem fb_add1 : ∀ n, n < 130 → FloatKind.f64.format.add (fb n) 4607182418800017408 = some (fb (n + 1)) := by decide +kernel
theorem fb_add0 : ∀ n, n < 130 → FloatKind.f64.format.add (fb n) 0 = some (fb n) := by decide +kernel
theorem fb_int : ∀ n, n < 130 → (FloatKind.f64.decode (fb n)).toInt .zero = some (n : Int) := by decide +kernel
theorem fb_geq : ∀ n, n < 70 → ∀ m, m < 70 → ((FloatKind.f64.format.order (fb n) (fb m) == some .gt || FloatKind.f64.format.order (fb n) (fb m) == some .eq) = decide (m ≤ n)) := by decide +kernel

section
variable {P : Program} {n : Cx} {l : List (Nat × Value)} {w : World} {t ty : TypeId} {x y : Operand}
theorem Ev.cadd {a b c d e f : Nat} (hx : evl l x = some (.complex .f64 a b)) (hy : evl l y = some (.complex .f64 c d)) (h1 : FloatKind.f64.format.add a c = some e) (h2 : FloatKind.f64.format.add b d = some f) : Ev P n l w (.binOp .add t x y ty) (.complex .f64 e f) :=
  Ev.binop hx hy (eqGuard_at_complex ..) fun w => by
    simp [binOp, Op.complexOp, Op.Complex.arith, Op.floatArith, h1, h2]
theorem Ev.real {a b : Nat} {ts : Array TypeId} (hx : evl l x = some (.complex .f64 a b)) : Ev P n l w (.call ⟨.builtin .real, #[x], ts⟩) (.float .f64 a) := fun o ac w' ho ha _ => by
  unfold execOp; rw [ho]
  simp only [resolve, Sem.run_bind, Sem.run_pure, Result.andThen_ok, invoke, builtin, List.map_toArray, List.map_cons, List.map_nil, ha.eval hx]
  rfl
theorem Ev.imag {a b : Nat} {ts : Array TypeId} (hx : evl l x = some (.complex .f64 a b)) : Ev P n l w (.call ⟨.builtin .imag, #[x], ts⟩) (.float .f64 b) := fun o ac w' ho ha _ => by
  unfold execOp; rw [ho]
  simp only [resolve, Sem.run_bind, Sem.run_pure, Result.andThen_ok, invoke, builtin, List.map_toArray, List.map_cons, List.map_nil, ha.eval hx]
  rfl
theorem Ev.ftoi {d : TypeId} {a m : Nat} (hs : ∃ k, P.underlying t = some k) (hd : P.underlying d = some (.int .i64)) (hx : evl l x = some (.float .f64 a)) (hm : (FloatKind.f64.decode a).toInt .zero = some (m : Int)) (hb : m < 9223372036854775808) : Ev P n l w (.convert t d x) (.int .i64 (m : Int)) := fun o ac w' ho ha _ => by
  unfold execOp; rw [ho]
  obtain ⟨k, hk⟩ := hs
  have h1 : IntKind.i64.min ≤ (m : Int) ∧ (m : Int) ≤ IntKind.i64.max := by
    have e1 : IntKind.i64.min = -9223372036854775808 := by decide
    have e2 : IntKind.i64.max = 9223372036854775807 := by decide
    omega
  have h2 : (Conv.floatToInt .f64 a .i64).run P w' = .ok (.int .i64 (m : Int)) w' := by
    simp only [Conv.floatToInt, hm]
    rw [if_pos h1]
    rfl
  simp [ha.eval hx, convert, run_underlying hk, run_underlying hd, h2]
theorem Ev.itof {d : TypeId} {k : IntKind} {z : Int} {m : Nat} (hs : ∃ k, P.underlying t = some k) (hd : P.underlying d = some (.float .f64)) (hx : evl l x = some (.int k z)) (hm : z = (m : Int)) : Ev P n l w (.convert t d x) (.float .f64 (fb m)) := fun o ac w' ho ha _ => by
  unfold execOp; rw [ho]
  obtain ⟨k, hk⟩ := hs
  simp [ha.eval hx, convert, run_underlying hk, run_underlying hd, Conv.intToFloat, hm, fb]
theorem Ev.fgeq {a b : Nat} (ha : a < 70) (hb : b < 70) (hx : evl l x = some (.float .f64 (fb a))) (hy : evl l y = some (.float .f64 (fb b))) : Ev P n l w (.binOp .geq t x y ty) (.bool (decide (b ≤ a))) :=
  Ev.binop hx hy (eqGuard_at_float ..) fun w => by
    have := fb_geq a ha b hb
    simp [binOp, Op.floatCmp, this]
end
end Go.Proofs.YtlnjmkmhmbijmaaGreat
