/- Loops over functions; functions that hold one; regions that draw their order inside a fence. -/
import Derived.Test.YtlnjmkmhmbijmaaGreatM5
import Derived.RangeFuncSeq
import Derived.RangeFuncLeaves
set_option linter.all false
namespace Go.Proofs.YtlnjmkmhmbijmaaGreat
open Go.RowKit

/-! ### regions that draw: blocks of operations that only read -/
def WI (P : Program) (n : Cx) (ops : Array Oper) (Q : Exit → Act → World → Prop) (fuel : Nat) (listed : Array Bool) (l : List (Nat × Value)) (w : World) : Prop :=
  ∀ a, Has n l a → wpAnyIn n.fence 0 P .any ops Q fuel listed a w
def blockOk (ops : Array Oper) (ids : List Nat) (rest : Nat) (full : Array Bool) : Nat → Array Bool → Bool
  | 0, listed => listed == full && rest == 0
  | f + 1, listed => if listed == full then f + 1 == rest else !(Region.ready .any ops listed).isEmpty && (Region.ready .any ops listed).all fun i => ids.contains i && blockOk ops ids rest full f (listed.setIfInBounds i true)
/-- the operation yields v and leaves S as it is -/
def Qi (P : Program) (n : Cx) (ops : Array Oper) (S : World → Prop) (l : List (Nat × Value)) (o : Oper) (v : Value) : Prop := ∀ a w, Has n l a → S w →
  (Region.wanted o (yielded ops a.tmps) = true ∧ ((execOp a.eval o).run P w = .ok (.value v) w ∨ ∃ f args, (execOp a.eval o).run P w = .ok (.enter f args) w ∧ Rets P f args w fun u w' => u = v ∧ S w')) ∨ (Region.wanted o (yielded ops a.tmps) = false ∧ v = undef)
/-- the operations on which one waits -/
def waitsOn (o : Oper) (A : List (Nat × Nat × Value)) : List (Nat × Value) := (A.filter fun q => o.after.toList.any fun e => Region.binds .any e && e.on == q.1).map (·.2)
def nodupB : List Nat → Bool
  | [] => true
  | x :: xs => !xs.contains x && nodupB xs
theorem nodupB_iff : ∀ {A : List (Nat × Nat × Value)}, nodupB (A.map (·.2.1)) = true → A.Pairwise fun p q => p.2.1 ≠ q.2.1
  | [], _ => List.Pairwise.nil
  | p :: A, h => by
    simp only [List.map_cons, nodupB, Bool.and_eq_true, Bool.not_eq_true'] at h
    refine List.pairwise_cons.2 ⟨fun q hq e => ?_, nodupB_iff h.2⟩
    have : (A.map (·.2.1)).contains p.2.1 = true := by
      rw [List.contains_iff_mem]; exact List.mem_map.2 ⟨q, hq, e.symm⟩
    rw [this] at h; cases h.1
structure Quiet1 (P : Program) (n : Cx) (ops : Array Oper) (S : World → Prop) (l : List (Nat × Value)) (A : List (Nat × Nat × Value)) (p : Nat × Nat × Value) : Prop where
  ex : ∃ o, ops[p.1]? = some o ∧ o.dst = some p.2.1 ∧ Nat.blt p.2.1 n.size = true ∧ look l p.2.1 = none ∧ Qi P n ops S (waitsOn o A ++ l) o p.2.2
section
variable {P : Program} {n : Cx} {l l' : List (Nat × Value)} {w : World} {Q : Exit → Act → World → Prop} {ops : Array Oper} {fuel : Nat} {listed : Array Bool}
theorem WP.dr {ol : List Oper} {id : Nat} {y : Code} (hm : P.follows .mixedOrders = true) (h : WI P n ol.toArray (Exit.then (cwp P n y Q) Q) ol.length (List.replicate ol.length false).toArray l w.drew) : WP P n (.seq (.region id ol.toArray true) y) l w Q := fun a ha => by
  exact wpIn_seq (wpIn_region_any (Q := Exit.then (cwp P n y Q) Q) hm (by have := h a ha; simpa using this))
theorem WP.dre {ol : List Oper} {id : Nat} (hm : P.follows .mixedOrders = true) (h : WI P n ol.toArray Q ol.length (List.replicate ol.length false).toArray l w.drew) : WP P n (.region id ol.toArray true) l w Q := fun a ha => by
  refine wpIn_region_any hm ?_
  have := h a ha
  simpa using this
theorem WI.one (i : Nat) {o : Oper} (hr : Region.ready .any ops listed = [i]) (hi : ops[i]? = some o) (h : WL P n ops Q (fun a w => wpAnyIn n.fence 0 P .any ops Q fuel (listed.setIfInBounds i true) a w) [o] l w) (hp : n.plain = false := by rfl) : WI P n ops Q (fuel + 1) listed l w := by
  intro a ha
  refine ⟨fun h0 => (by rw [hr] at h0; cases h0), fun j hj => ?_⟩
  rw [hr] at hj
  obtain rfl := List.mem_singleton.1 hj
  have h1 := h a ha
  unfold wpK at h1
  unfold wpOpIn
  rw [hi]
  show (if Region.wanted o (yielded ops a.tmps) then _ else _)
  split
  · rename_i hw
    rw [if_pos hw] at h1
    unfold opw at h1
    rw [hp] at h1
    exact h1
  · rename_i hw
    rw [if_neg hw] at h1
    exact ⟨fun _ _ => trivial, h1⟩
theorem WI.nx (k : WI P n ops Q fuel listed l w) : WL P n ops Q (fun a w => wpAnyIn n.fence 0 P .any ops Q fuel listed a w) [] l w := fun a ha => k a ha
theorem WI.dn {y : Code} (hr : Region.ready .any ops listed = []) (h : WP P n y l w Q) : WI P n ops (Exit.then (cwp P n y Q) Q) fuel listed l w := fun a ha => by
  cases fuel with
  | zero => exact ⟨hr, h a ha⟩
  | succ f => exact ⟨fun _ => h a ha, by rw [hr]; simp⟩
theorem WI.dne (hr : Region.ready .any ops listed = []) (h : Pst n Q .normal l w) : WI P n ops Q fuel listed l w := fun a ha => by
  cases fuel with
  | zero => exact ⟨hr, h a ha⟩
  | succ f => exact ⟨fun _ => h a ha, by rw [hr]; simp⟩
theorem WI.re {t : Nat} {u v : Value} (hl : look l t = some u) (e : u = v) (k : WI P n ops Q fuel listed ((t, v) :: l) w) : WI P n ops Q fuel listed l w := fun a ha => k a (ha.set hl e)
theorem Has.more {a : Act} (h : Has n l a) : ∀ {B : List (Nat × Value)}, (∀ q ∈ B, a.tmps.getD q.1 undef = q.2) → Has n (B ++ l) a
  | [], _ => h
  | q :: B, hB => by
    have h1 := Has.more h (B := B) fun q hq => hB q (by simp [hq])
    refine ⟨h.defers, h.size, fun i v hv => ?_⟩
    simp only [List.cons_append, look] at hv
    cases hb : Nat.beq q.1 i with
    | true => simp [hb] at hv; subst hv; rw [← Nat.eq_of_beq_eq_true hb]; exact hB q (by simp)
    | false => simp [hb] at hv; exact h1.get i v hv
theorem pairwise_ne {A : List (Nat × Nat × Value)} (hd : A.Pairwise fun p q => p.2.1 ≠ q.2.1) {p q : Nat × Nat × Value} (hp : p ∈ A) (hq : q ∈ A) (hne : p ≠ q) : p.2.1 ≠ q.2.1 := by
  induction A with
  | nil => simp at hp
  | cons x A ih =>
    have h := List.pairwise_cons.1 hd
    rcases List.mem_cons.1 hp with hp' | hp' <;> rcases List.mem_cons.1 hq with hq' | hq'
    · exact absurd (hp'.trans hq'.symm) hne
    · rw [hp']; exact h.1 q hq'
    · rw [hq']; exact fun e => h.1 p hp' e.symm
    · exact ih h.2 hp' hq'
theorem put_other {a : Act} {d k : Nat} {v : Value} (h : k ≠ d) : (a.put (some d) v).tmps.getD k undef = a.tmps.getD k undef := by
  simp [Act.put, Array.getD_eq_getD_getElem?, Array.getElem?_setIfInBounds_ne (Ne.symm h)]
theorem WI.block {S : World → Prop} (A : List (Nat × Nat × Value)) (rest : Nat) (full : Array Bool) (hok : blockOk ops (A.map (·.1)) rest full fuel listed = true) (hd : nodupB (A.map (·.2.1)) = true) (hfull : A.all (fun p => full.getD p.1 false) = true) (hl0 : A.all (fun p => !listed.getD p.1 false) = true)
    (hq : ∀ p ∈ A, Quiet1 P n ops S l A p) (hS : S w) (k : ∀ w', S w' → WI P n ops Q rest full (A.map (·.2) ++ l) w') (hp : n.plain = false := by rfl) : WI P n ops Q fuel listed l w := by
  have key : ∀ (fuel : Nat) (listed : Array Bool) (a : Act) (w : World), blockOk ops (A.map (·.1)) rest full fuel listed = true → Has n l a → (∀ p ∈ A, listed.getD p.1 false = true → a.tmps.getD p.2.1 undef = p.2.2) → S w → wpAnyIn n.fence 0 P .any ops Q fuel listed a w := by
    intro fuel
    induction fuel with
    | zero =>
      intro listed a w hb ha hv hS
      simp only [blockOk, Bool.and_eq_true, beq_iff_eq] at hb
      obtain ⟨rfl, rfl⟩ := hb
      refine k w hS a (ha.more fun q hq => ?_)
      obtain ⟨p, hpA, rfl⟩ := List.mem_map.1 hq
      exact hv p hpA (List.all_eq_true.1 hfull p hpA)
    | succ f ih =>
      intro listed a w hb ha hv hS
      unfold blockOk at hb
      split at hb
      · rename_i he
        have he' : listed = full := eq_of_beq he
        have hr' : f + 1 = rest := eq_of_beq hb
        subst he' hr'
        refine k w hS a (ha.more fun q hq => ?_)
        obtain ⟨p, hpA, rfl⟩ := List.mem_map.1 hq
        exact hv p hpA (List.all_eq_true.1 hfull p hpA)
      · simp only [Bool.and_eq_true, Bool.not_eq_true', List.isEmpty_eq_false_iff, List.all_eq_true] at hb
        refine ⟨fun h0 => absurd h0 hb.1, fun i hi => ?_⟩
        have h1 := hb.2 i hi
        have hmem : i ∈ A.map (·.1) := by simpa using h1.1
        obtain ⟨p, hpA, rfl⟩ := List.mem_map.1 hmem
        obtain ⟨o, ho, hdst, hblt, hnone, hqi⟩ := (hq p hpA).ex
        obtain ⟨hun, o', ho', hall⟩ := mem_ready.1 hi
        rw [ho] at ho'
        obtain rfl := Option.some.inj ho'
        have hfr : Has n (waitsOn o A ++ l) a := ha.more fun q hq => by
          obtain ⟨p', hp', rfl⟩ := List.mem_map.1 hq
          obtain ⟨h2, h3⟩ := List.mem_filter.1 hp'
          obtain ⟨e, he, h4⟩ := List.any_eq_true.1 h3
          simp only [Bool.and_eq_true, beq_iff_eq] at h4
          exact hv p' h2 (by rw [← h4.2]; exact hall e (by simpa using he) h4.1)
        have next : ∀ w', S w' → wpAnyIn n.fence 0 P .any ops Q f (listed.setIfInBounds p.1 true) (a.put (some p.2.1) p.2.2) w' := by
          intro w' hS'
          refine ih _ _ _ h1.2 ?_ (fun q hqA hlq => ?_) hS'
          · have h5 := ha.put hblt p.2.2
            refine ⟨h5.defers, h5.size, fun j u hu => h5.get j u ?_⟩
            unfold look
            cases hb' : Nat.beq p.2.1 j with
            | true => rw [← Nat.eq_of_beq_eq_true hb', hnone] at hu; cases hu
            | false => simpa [hb'] using hu
          · by_cases hd' : q.2.1 = p.2.1
            · have : q = p := by
                by_cases e : q = p
                · exact e
                · exact absurd hd' (pairwise_ne (nodupB_iff hd) hqA hpA e)
              subst this
              exact (ha.put hblt _).get _ _ (by simp [look])
            · rw [put_other hd']
              refine hv q hqA ?_
              by_cases e : p.1 = q.1
              · exfalso
                obtain ⟨o2, ho2, hdst2, _⟩ := (hq q hqA).ex
                rw [← e, ho] at ho2
                obtain rfl := Option.some.inj ho2
                rw [hdst] at hdst2
                exact hd' (Option.some.inj hdst2).symm
              · rw [← hlq]; simp only [Array.getD_eq_getD_getElem?, Array.getElem?_setIfInBounds_ne e]
        unfold wpOpIn
        rw [ho]
        rcases hqi a w hfr hS with ⟨hw, hrun⟩ | ⟨hw, hv'⟩
        · show (if Region.wanted o (yielded ops a.tmps) then _ else _)
          rw [if_pos hw]
          have hopw : ∀ K, opw P n o a w K Q → o.wpIn n.fence 0 P a w K Q := by intro K h; unfold opw at h; rw [hp] at h; exact h
          rcases hrun with hrun | ⟨g, args, hrun, hret⟩
          · exact hopw _ (opw_value hrun (by rw [hdst]; exact next w hS))
          · refine hopw _ (opw_enter hrun (Calls.mono hret ?_))
            rintro e w' ⟨v, rfl, rfl, hS'⟩
            exact ⟨_, rfl, by rw [hdst]; exact next w' hS'⟩
        · show (if Region.wanted o (yielded ops a.tmps) then _ else _)
          rw [if_neg (by rw [hw]; decide)]
          exact ⟨fun _ _ => trivial, by rw [hdst, ← hv']; exact next w hS⟩
  intro a ha
  exact key fuel listed a w hok ha (fun p hpA hl => by have := List.all_eq_true.1 hl0 p hpA; rw [hl] at this; cases this) hS
end

/-! ### objects of the heap that are no cells -/
def rObj (g : Nat) (o : Obj) : Res where
  W := fun b => b = g
  ok := fun _ w => w.heap[g]? = some o
  sub := fun _ h => h
  keep := fun {_ w _} hm h => (hm g (.inl rfl) (Array.getElem?_eq_some_iff.1 h).1).trans h
section
variable {P : Program} {b w : World} {S : Nat → Prop} {rs rest F G : List Res}
theorem Hp.obj {g : Nat} {o : Obj} (H : Hp b S w rs) (s : Sel rs (rObj g o) rest) : w.heap[g]? = some o := H.ok (rObj g o) (s.perm.mem_iff.2 (by simp))
theorem Hp.newObj (H : Hp b S w rs) (o : Obj) : Hp b S (w.alloc o) (rObj w.heap.size o :: rs) :=
  H.new (r := rObj w.heap.size o) (Ext.alloc w o) (fun g hg => by rw [show g = w.heap.size from hg]; simp) (World.alloc_heap_new w o)
theorem Hp.putObj {g : Nat} {o : Obj} (H : Hp b S w rs) (s : Sel rs (rObj g o) rest) (o' : Obj) : Hp b S (w.putObj g o') (rObj g o' :: rest) :=
  (H.sel s).put (r' := rObj g o') ⟨rfl, rfl, rfl, by simp, fun k hk hn => World.putObj_heap_other hn, Nat.le_refl _⟩ (fun g hg => .inl hg) (World.putObj_heap_same (Array.getElem?_eq_some_iff.1 (H.obj s)).1)
theorem Hp.comm (H : Hp b S w (F ++ G)) : Hp b S w (G ++ F) := H.perm List.perm_append_comm
end

/-! ### a loop over a function -/
/-- what a function that is ranged over does: it hands on ys, one behind the other, until it is told to stop; G0: what of the memory it looks at -/
def Iter (P : Program) (f : FuncId) (caps : List Value) {α : Type} (enc : α → List Value) (ys : List α) (b : World) (S : Nat → Prop) (G0 : List Res) : Prop :=
  ∀ (lr : Nat) (Jf Jx : List α → List Res → Prop) (w : World) (F0 : List Res), Hp b S w (F0 ++ G0) → Jf [] F0 →
    (∀ pre x W F G, Jf pre F → pre ++ [x] <+: ys → Hp b S W (F ++ G) → YieldAt Fence.wide 0 P lr (enc x).toArray W fun e W' =>
      (e = .returned (.bool true) ∧ ∃ F', Jf (pre ++ [x]) F' ∧ Hp b S W' (F' ++ G)) ∨ (e = .returned (.bool false) ∧ ∃ F', Jx (pre ++ [x]) F' ∧ Hp b S W' (F' ++ G))) →
    CallsIn Fence.wide 0 P f (#[.func (.yield lr) #[] #[]] ++ caps.toArray) w fun e w' => (∃ v, e = .returned v) ∧ ((∃ F', Jf ys F' ∧ Hp b S w' F') ∨ (∃ pre F', Jx pre F' ∧ Hp b S w' F'))

/-- an activation of a round -/
abbrev Cx.rnd (k lr : Nat) : Cx := ⟨k, some lr, [], false⟩
abbrev Cx.marked (k D : Nat) : Cx := ⟨k, none, [D], false⟩
def RPost {α : Type} (b : World) (S : Nat → Prop) (G : List Res) (Jf : List α → List Res → Prop) (Jx : Code → List α → List Res → Prop) (pre : List α) : Exit → Act → World → Prop
  | .normal, _, w => ∃ F, Jf pre F ∧ Hp b S w (F ++ G)
  | .ret, _, w => ∃ F, Jx .ret pre F ∧ Hp b S w (F ++ G)
  | .exit id, _, w => ∃ F, Jx (.exit id) pre F ∧ Hp b S w (F ++ G)
  | .goto t, _, w => ∃ F, Jx (.goto t) pre F ∧ Hp b S w (F ++ G)
  | _, _, _ => False
def APost {α : Type} (n : Cx) (b : World) (S : Nat → Prop) (G : List Res) (Mid : List α → α → List (Nat × Value) → List Res → Prop) (pre : List α) (x : α) : Exit → Act → World → Prop
  | .normal, a, w => ∃ l1 F1, Has n l1 a ∧ Mid pre x l1 F1 ∧ Hp b S w (F1 ++ G)
  | _, _, _ => False
theorem getD_foldl_zip : ∀ (ps : List Nat) (vs : List Value) (t : Array Value) (l : List (Nat × Value)) (k : Nat), ps.length = vs.length → (∀ p ∈ ps, p < k) → t.size = k → (∀ i v, look l i = some v → t.getD i undef = v) →
    ((ps.zip vs).foldl (fun t (p, v) => t.setIfInBounds p v) t).size = k ∧ ∀ i v, look ((ps.zip vs).reverse ++ l) i = some v → ((ps.zip vs).foldl (fun t (p, v) => t.setIfInBounds p v) t).getD i undef = v
  | [], vs, t, l, k, _, _, hs, hl => by
    simp only [List.zip_nil_left, List.foldl_nil, List.reverse_nil, List.nil_append]
    exact ⟨hs, hl⟩
  | p :: ps, [], t, l, k, h, _, _, _ => by simp at h
  | p :: ps, v :: vs, t, l, k, h, hp, hs, hl => by
    have hpk := hp p (by simp)
    simp only [List.zip_cons_cons, List.foldl_cons, List.reverse_cons, List.append_assoc, List.singleton_append]
    refine getD_foldl_zip ps vs _ ((p, v) :: l) k (by simpa using h) (fun q hq => hp q (by simp [hq])) (by simp [hs]) (fun i u hu => ?_)
    unfold look at hu
    cases hb : Nat.beq p i with
    | true =>
      have := Nat.eq_of_beq_eq_true hb
      subst this
      simp [hb] at hu
      subst hu
      simp [Array.getD_eq_getD_getElem?, hs, hpk]
    | false =>
      simp [hb] at hu
      have := hl i u hu
      simpa [Array.getD_eq_getD_getElem?, Array.getElem?_setIfInBounds_ne (Nat.ne_of_beq_eq_false hb)] using this
section
variable {P : Program} {k : Nat} {l : List (Nat × Value)} {b w : World} {S : Nat → Prop} {Q : Exit → Act → World → Prop}
theorem WP.range {α : Type} {g : Operand} {ps : List Nat} {assign body : Code} {f : FuncId} {caps : List Value} {enc : α → List Value} {ys : List α} {F0 G0 : List Res} (hg : evl l g = some (.func (.func f) #[] caps.toArray)) (hcal : Callable P f)
    (hit : Iter P f caps enc ys b S G0) (H : Hp b S w (F0 ++ G0)) (hps : ∀ x, (enc x).length = ps.length) (hpk : ps.all (fun p => Nat.blt p k) = true)
    (Jf : List α → List Res → Prop) (Jx : Code → List α → List Res → Prop) (Mid : List α → α → List (Nat × Value) → List Res → Prop) (h0 : Jf [] F0)
    (hassign : ∀ lr pre x F G W, Jf pre F → pre ++ [x] <+: ys → Hp b S W (F ++ G) → WP P (.rnd k lr) assign ((ps.zip (enc x)).reverse ++ l) W (APost (.rnd k lr) b S G Mid pre x))
    (hbody : ∀ lr pre x l1 F1 G W, Mid pre x l1 F1 → pre ++ [x] <+: ys → Hp b S W (F1 ++ G) → WP P (.rnd k lr) body l1 W (RPost b S G Jf Jx (pre ++ [x])))
    (hdone : ∀ D F w', Jf ys F → Hp b S w' (rObj D (.deferred (some [])) :: F) → Pst (.marked k D) Q .normal l w')
    (hstop : ∀ D c pre F w', Jx c pre F → Hp b S w' (rObj D (.deferred (some [])) :: F) → WP P (.marked k D) c l w' Q) :
    WP P (.bare k) (.rangeFunc g ps.toArray assign body) l w Q := by
  intro a ha
  have hgv := ha.eval hg
  refine wpIn_rangeFunc fun fn hfn => ?_
  obtain ⟨rec, hrec⟩ : ∃ rec : LoopState → Option Code → Loop, rec = fun st pe => { state := st, pending := pe, fn, tmps := a.tmps, params := ps.toArray, assign, body, defers := w.heap.size } := ⟨_, rfl⟩
  have H1 := H.newObj (.deferred (some []))
  have H2 := H1.newObj (.loop (rec .ready none))
  obtain ⟨W1, hW1⟩ : ∃ W1, (w.alloc (.deferred (some []))).alloc (.loop (rec .ready none)) = W1 := ⟨_, rfl⟩
  have hsz : (w.alloc (.deferred (some []))).heap.size = w.heap.size + 1 := by simp
  rw [hW1, hsz] at H2
  obtain ⟨D, hD⟩ : ∃ D, w.heap.size = D := ⟨_, rfl⟩
  obtain ⟨lr, hlr⟩ : ∃ lr, w.heap.size + 1 = lr := ⟨_, rfl⟩
  rw [hlr, hD] at H2
  refine ⟨lr, [{ target := .collected D, args := #[] }], W1, { target := .fn (.func f) caps.toArray, args := #[.func (.yield lr) #[] #[]] }, W1, f, #[.func (.yield lr) #[] #[]] ++ caps.toArray, W1, ?_, ?_, fun _ _ => trivial, ?_, (fun h => by cases h), ?_⟩
  · rw [← hW1, hrec, ← hD, ← hlr]; exact run_enterLoop_outer _ _ _ _ _
  · simp only [resolve, hgv]
    simp [go_sem]
  · simp only [invoke]
    exact hcal _ _
  · have Hn : Hp b S W1 ((rObj lr (.loop (rec .ready none)) :: rObj D (.deferred (some [])) :: F0) ++ G0) := H2
    refine (hit lr (fun pre F' => ∃ F, F' = rObj lr (.loop (rec .ready none)) :: rObj D (.deferred (some [])) :: F ∧ Jf pre F)
      (fun pre F' => ∃ c F, F' = rObj lr (.loop (rec .done (some c))) :: rObj D (.deferred (some [])) :: F ∧ Jx c pre F) W1 _ Hn ⟨F0, rfl, h0⟩ ?_).mono ?_
    · rintro pre x W F' G ⟨F, rfl, hJ⟩ hpre Hw
      have hobj : W.heap[lr]? = some (.loop (rec .ready none)) := Hw.obj s0
      have hy := run_yield (P := P) (args := (enc x).toArray) hobj (by rw [hrec]; simp [hps])
      rw [hrec] at hy
      refine ⟨fn, _, assign, body, hy, roundIn_of_wpIn trivial ?_⟩
      have Hw2 : Hp b S W (F ++ (rObj lr (.loop (rec .ready none)) :: rObj D (.deferred (some [])) :: G)) :=
        Hw.perm (by
          have : (rObj lr (.loop (rec .ready none)) :: rObj D (.deferred (some [])) :: F) ++ G = [rObj lr (.loop (rec .ready none)), rObj D (.deferred (some []))] ++ F ++ G := by simp
          rw [this]
          refine (List.perm_append_comm.append_right G).trans ?_
          rw [List.append_assoc]
          exact List.Perm.refl _)
      have hfr := getD_foldl_zip ps (enc x) a.tmps l k (hps x).symm (fun p hp => by have := List.all_eq_true.1 hpk p hp; simpa [Nat.blt_eq] using this) ha.size ha.get
      have hHas : Has (.rnd k lr) ((ps.zip (enc x)).reverse ++ l) { tmps := (ps.toArray.zip (enc x).toArray).foldl (fun t (p, v) => t.setIfInBounds p v) a.tmps, defers := [] } := by
        have he : (ps.toArray.zip (enc x).toArray).foldl (fun t (p, v) => t.setIfInBounds p v) a.tmps = (ps.zip (enc x)).foldl (fun t (p, v) => t.setIfInBounds p v) a.tmps := by
          rw [List.zip_toArray, List.foldl_toArray]
        rw [he]
        exact ⟨rfl, hfr.1, hfr.2⟩
      have has := hassign lr pre x F _ W hJ hpre Hw2 _ hHas
      refine wpIn_mono has ?_
      rintro e a1 w1 hq
      cases e with
      | normal =>
        obtain ⟨l1, F1, hh1, hmid, Hm⟩ := hq
        have hcm : ∀ {W' : World} {FF GG : List Res} {o1 o2 : Obj}, Hp b S W' (FF ++ (rObj lr o1 :: rObj D o2 :: GG)) → Hp b S W' (rObj lr o1 :: rObj D o2 :: (FF ++ GG)) := fun h => h.perm (by
          refine (List.perm_append_comm).trans ?_
          exact ((List.perm_append_comm).cons _).cons _)
        have Hm1 := hcm Hm
        refine ⟨_, run_beginRound (Hm1.obj s0) (by rw [hrec]), ?_⟩
        have Hm2 := Hm1.putObj s0 (.loop { rec .ready none with state := .busy })
        have Hm3 : Hp b S (w1.putObj lr (.loop { rec .ready none with state := .busy })) (F1 ++ (rObj lr (.loop { rec .ready none with state := .busy }) :: rObj D (.deferred (some [])) :: G)) := Hm2.perm (by
          refine List.Perm.trans ?_ (List.perm_append_comm)
          exact ((List.perm_append_comm).cons _).cons _)
        refine wpIn_mono (hbody lr pre x l1 F1 _ _ hmid hpre Hm3 a1 hh1) ?_
        have fin : ∀ (jump : Option Code) (W3 : World) (F3 : List Res), Hp b S W3 (F3 ++ (rObj lr (.loop { rec .ready none with state := .busy }) :: rObj D (.deferred (some [])) :: G)) →
            ∃ W4, (Instr.endRound lr jump).run P W3 = .ok (.bool jump.isNone) W4 ∧ Hp b S W4 ((rObj lr (.loop (rec (if jump.isNone then .ready else .done) jump)) :: rObj D (.deferred (some [])) :: F3) ++ G) := fun jump W3 F3 h3 => by
          have h4 := hcm h3
          have h5 := run_endRound (P := P) jump (h4.obj s0)
          have h6 := h4.putObj s0 (.loop (rec (if jump.isNone then .ready else .done) jump))
          rw [hrec] at h5 h6 ⊢
          exact ⟨_, h5, h6⟩
        rintro e a3 W3 hp3
        cases e with
        | normal =>
          obtain ⟨F3, hJ3, h3⟩ := hp3
          obtain ⟨W4, hr4, h4⟩ := fin none W3 F3 h3
          exact ⟨_, _, hr4, .inl ⟨rfl, _, ⟨F3, rfl, hJ3⟩, h4⟩⟩
        | ret =>
          obtain ⟨F3, hJ3, h3⟩ := hp3
          obtain ⟨W4, hr4, h4⟩ := fin (some .ret) W3 F3 h3
          exact ⟨_, _, hr4, .inr ⟨rfl, _, ⟨.ret, F3, rfl, hJ3⟩, h4⟩⟩
        | exit id =>
          obtain ⟨F3, hJ3, h3⟩ := hp3
          obtain ⟨W4, hr4, h4⟩ := fin (some (.exit id)) W3 F3 h3
          exact ⟨_, _, hr4, .inr ⟨rfl, _, ⟨.exit id, F3, rfl, hJ3⟩, h4⟩⟩
        | goto t =>
          obtain ⟨F3, hJ3, h3⟩ := hp3
          obtain ⟨W4, hr4, h4⟩ := fin (some (.goto t)) W3 F3 h3
          exact ⟨_, _, hr4, .inr ⟨rfl, _, ⟨.goto t, F3, rfl, hJ3⟩, h4⟩⟩
        | panic ch => exact hp3.elim
        | outgrown => exact hp3.elim
      | ret => exact hq.elim
      | exit id => exact hq.elim
      | goto t => exact hq.elim
      | panic ch => exact hq.elim
      | outgrown => exact hq.elim
    · have hdf : ({ a with defers := [{ target := .collected D, args := #[] }] ++ a.defers } : Act).defers = (Cx.marked k D).defers := by
        rw [ha.defers]; rfl
      rintro e W2 ⟨⟨v, rfl⟩, (⟨F', ⟨F, rfl, hJ⟩, h2⟩ | ⟨pre, F', ⟨c, F, rfl, hJ⟩, h2⟩)⟩
      · have h3 := run_endLoop (P := P) (h2.obj s0) (by rw [hrec]; simp)
        have h4 := (h2.putObj s0 (.loop { rec .ready none with state := .exhausted })).tail
        refine ⟨none, _, h3.trans (congrArg (fun p => Result.ok p _) (show (rec .ready none).pending = none by rw [hrec])), ?_⟩
        exact hdone D F _ hJ h4 _ ⟨hdf, ha.size, ha.get⟩
      · have h3 := run_endLoop (P := P) (h2.obj s0) (by rw [hrec]; simp)
        have h4 := (h2.putObj s0 (.loop { rec .done (some c) with state := .exhausted })).tail
        refine ⟨some c, _, h3.trans (congrArg (fun p => Result.ok p _) (show (rec .done (some c)).pending = some c by rw [hrec])), ?_⟩
        exact hstop D c pre F _ hJ h4 _ ⟨hdf, ha.size, ha.get⟩
end

/-! ### a function that holds a loop over a function: its beginning, its end -/
/-- what the result variables hold -/
def Resv (P : Program) (l : List (Nat × Value)) (w : World) : List ResultVar → List Value → Prop
  | [], vs => vs = []
  | .tmp t :: rs, vs => ∃ v us, vs = v :: us ∧ look l t = some v ∧ Resv P l w rs us
  | .cell a t :: rs, vs => ∃ v us, vs = v :: us ∧ (∃ p, look l a = some (.pointer (some p)) ∧ (loadVar t p).run P w = .ok v w) ∧ Resv P l w rs us
section
variable {P : Program} {n : Cx} {l : List (Nat × Value)} {b w : World} {S : Nat → Prop}
theorem run_resv (f : ResultVar → Sem Value) (a : Act) (hf : ∀ t, f (.tmp t) = pure (a.tmps.getD t undef)) (hc : ∀ c t, f (.cell c t) = (do loadVar t (← asAddr (a.tmps.getD c undef)))) (ha : Has n l a) : ∀ (rs : List ResultVar) (vs : List Value), Resv P l w rs vs → (rs.mapM f).run P w = .ok vs w
  | [], vs, h => by simp [Resv] at h; subst h; rfl
  | .tmp t :: rs, vs, h => by
    obtain ⟨v, us, rfl, h1, h2⟩ := h
    have h3 := run_resv f a hf hc ha rs us h2
    have hg := ha.get t v h1
    simp only [List.mapM_cons, Sem.run_bind, Sem.run_pure, Result.andThen_ok, hf, hg, h3]
  | .cell c t :: rs, vs, h => by
    obtain ⟨v, us, rfl, ⟨p, h1, hp⟩, h2⟩ := h
    have h3 := run_resv f a hf hc ha rs us h2
    have hg := ha.get c _ h1
    have h4 : (do loadVar t (← asAddr (a.tmps.getD c undef)) : Sem Value).run P w = .ok v w := by
      simp [hg, asAddr, hp]
    simp only [List.mapM_cons, Sem.run_bind, Sem.run_pure, Result.andThen_ok, hc, h3]
    rw [← Sem.run_bind, h4]
    simp only [Result.andThen_ok, h3, Sem.run_bind, Sem.run_pure]
theorem loads_cell {t : TypeId} {p : Addr} {v : Value} (hn : NotAgg P t) (hp : w.cell? p = some v) : (loadVar t p).run P w = .ok v w := by
  simp [loadVar, hn w, run_load, hp]
theorem loads_box {t t' : TypeId} {k g : Nat} {cs : List Value} (hn : Agg P t k) (hk : cs.length = k) (hb : Bx w g t' cs) : (loadVar t ⟨g, 0, none⟩).run P w = .ok (.agg cs.toArray) w := by
  have h1 := run_loadCells_list (P := P) w ⟨g, 0, none⟩ cs (fun j u hu => by rw [Addr.add_lit, hb.cell]; simpa using hu)
  rw [hk] at h1
  simp [loadVar, hn.1 w, hn.2 w, h1]
theorem run_results {fn : Func} {a : Act} {rs : List ResultVar} {vs : List Value} (ha : Has n l a) (hr : fn.results = rs.toArray) (h : Resv P l w rs vs) : (results fn a.tmps).run P w = .ok (wrapRes vs) w := by
  unfold results
  rw [hr, Sem.run_bind, List.mapM_toArray, Sem.run_map, run_resv (P := P) (w := w) _ a (fun _ => rfl) (fun _ _ => rfl) ha rs vs h]
  simp only [Result.andThen_ok, Sem.run_pure]
  match vs with
  | [] => simp [wrapRes]
  | [v] => simp [wrapRes]
  | u :: v :: vs => simp [wrapRes]
theorem WP.enterM {k : Nat} {f : FuncId} {fn : Func} {c : Code} {vs : List Value} {R : Value → World → Prop} (hf : P.funcs[f]? = some fn) (hb : fn.body = some c) (hn : fn.ntmps = k) (hle : Nat.ble vs.length k = true)
    (h : WP P (.bare k) c (enum 0 vs) w (bodyPostM Fence.wide 0 P fn (RR R))) : Rets P f vs.toArray w R := by
  refine (callsIn_wide (n := 0)).1 (callsIn_of_wp_marks hf hb trivial (h _ ⟨rfl, ?_, fun i v hv => ?_⟩))
  · have := Nat.le_of_ble_eq_true hle
    simp [hn]; omega
  · obtain ⟨_, h2⟩ := look_enum vs 0 i v hv
    have hi : i < vs.length := (List.getElem?_eq_some_iff.1 h2).1
    simp only [Nat.sub_zero] at h2
    have h3 := (List.getElem?_eq_some_iff.1 h2).2
    simp [Array.getElem?_append, hi, h3]
theorem Pst.retC {k : Nat} {fn : Func} {R : Value → World → Prop} {rs : List ResultVar} {vs : List Value} (hr : fn.results = rs.toArray) (h : Resv P l w rs vs) (hR : R (wrapRes vs) w) : Pst (.bare k) (bodyPost P fn (RR R)) .ret l w := by
  intro a ha
  exact ⟨ha.defers.trans rfl, _, run_results ha hr h, _, rfl, hR⟩
/-- its end, behind the loop -/
theorem Pst.retM {k D : Nat} {fn : Func} {R : Value → World → Prop} {rs : List ResultVar} {F : List Res} (H : Hp b S w (rObj D (.deferred (some [])) :: F)) (hr : fn.results = rs.toArray)
    (h : ∀ w', Hp b S w' F → ∃ vs, Resv P l w' rs vs ∧ R (wrapRes vs) w') : Pst (.marked k D) (bodyPostM Fence.wide 0 P fn (RR R)) .ret l w := by
  intro a ha
  show LeavesInM Fence.wide 0 P fn a.tmps (RR R) a.defers .returning w
  rw [ha.defers]
  have h1 := run_takeDeferred (P := P) (H.obj s0)
  have h2 := (H.putObj s0 (.deferred none)).tail
  obtain ⟨vs, h3, h4⟩ := h _ h2
  refine ⟨by simp, .inl ⟨D, _, rfl, h1, ?_⟩⟩
  exact ⟨_, run_results ha hr h3, _, rfl, h4⟩
/-- ahead of it -/
theorem Pst.retB {k : Nat} {fn : Func} {R : Value → World → Prop} {rs : List ResultVar} {vs : List Value} (hr : fn.results = rs.toArray) (h : Resv P l w rs vs) (hR : R (wrapRes vs) w) : Pst (.bare k) (bodyPostM Fence.wide 0 P fn (RR R)) .ret l w := by
  intro a ha
  show LeavesInM Fence.wide 0 P fn a.tmps (RR R) a.defers .returning w
  rw [ha.defers]
  exact ⟨_, run_results ha hr h, _, rfl, hR⟩
/-- a call of yield -/
theorem WL.yield {Q : Exit → Act → World → Prop} {K : Act → World → Prop} {ops : Array Oper} {os : List Oper} {ty : TypeId} {pos : String} {aft : Array Edge} {d lr : Nat} {fop : Operand} {args : List Operand} {tys : Array TypeId} {vs : List Value} {R : Ending → World → Prop} {g : Option (Nat × Bool)}
    (hg : match g with | none => True | some (j, want) => guardOf ops l j = some (.bool want)) (hf : evl l fop = some (.func (.yield lr) #[] #[])) (hargs : evls l args = some vs) (hy : YieldAt Fence.wide 0 P lr vs.toArray w R) (hR : ∀ e w', R e w' → ∃ v, e = .returned v) (hd : Nat.blt d n.size = true) (hro : n.round = none) (hp : n.plain = false)
    (k : ∀ v w', R (.returned v) w' → WL P n ops Q K os ((d, v) :: l) w') : WL P n ops Q K (⟨some d, .call ⟨.value fop, args.toArray, tys⟩, ty, pos, aft, g⟩ :: os) l w := by
  intro a ha
  unfold wpK
  have hw : Region.wanted ⟨some d, .call ⟨.value fop, args.toArray, tys⟩, ty, pos, aft, g⟩ (yielded ops a.tmps) = true := by
    match g, hg with
    | none, _ => rfl
    | some (j, want), hg => exact wanted_some hg a ha
  rw [if_pos hw]
  unfold opw
  rw [hp]
  obtain ⟨fn, tmps, assign, body, hy1, hy2⟩ := hy
  refine ⟨fun _ _ => trivial, ?_⟩
  have hrun : (execOp a.eval ⟨some d, .call ⟨.value fop, args.toArray, tys⟩, ty, pos, aft, g⟩).run P w = .ok (.round lr fn tmps assign body) w := by
    unfold execOp
    have h1 := ha.eval hf
    have h2 := ha.evals hargs
    simp only [resolve, h1, Deferred.ofValue, Sem.run_bind, Sem.run_pure, Result.andThen_ok, invoke]
    have : (#[] ++ Array.map a.eval args.toArray : Array Value) = vs.toArray := by
      rw [List.map_toArray, h2]; simp
    rw [this]
    exact hy1
  have hrd : n.fence.round = none := hro
  rw [hrd, Oper.semAt_none, hrun]
  rw [Cx.fence_wide hro]
  refine ⟨fun h => (by cases h), RoundIn.mono hy2 ?_⟩
  rintro e w' hq
  obtain ⟨v, rfl⟩ := hR e w' hq
  exact k v w' hq _ (ha.put hd v)
end

section
variable {P : Program} {n : Cx} {l l' : List (Nat × Value)} {b w : World} {S : Nat → Prop} {ops : Array Oper} {T : World → Prop} {op : Op} {ty : TypeId} {pos : String} {aft : Array Edge} {d j : Nat} {want : Bool} {v : Value}
theorem Qi.ev (h : ∀ w, T w → Ev P n l w op v) : Qi P n ops T l ⟨some d, op, ty, pos, aft, none⟩ v := fun a w ha hT => .inl ⟨wanted_none a, .inl (h w hT _ a w rfl ha (Ext.refl w))⟩
theorem Qi.evg (hg : guardOf ops l j = some (.bool want)) (h : ∀ w, T w → Ev P n l w op v) : Qi P n ops T l ⟨some d, op, ty, pos, aft, some (j, want)⟩ v := fun a w ha hT => .inl ⟨wanted_some hg a ha, .inl (h w hT _ a w rfl ha (Ext.refl w))⟩
theorem Qi.pass {u : Value} (hg : guardOf ops l j = some u) (hv : unlike want u = true) : Qi P n ops T l ⟨some d, op, ty, pos, aft, some (j, want)⟩ undef := fun a w ha hT => .inr ⟨by
  show (yielded ops a.tmps j == some want) = false
  rw [yielded_of ha hg]
  cases u <;> simp [unlike] at hv ⊢
  cases want <;> simp_all, rfl⟩
theorem Qi.call {fop : Operand} {args : List Operand} {tys : Array TypeId} {f : FuncId} {caps vs all : List Value} (hf : evl l fop = some (.func (.func f) #[] caps.toArray)) (hargs : evls l args = some vs) (hall : vs ++ caps = all) (hcal : Callable P f)
    (hc : ∀ w, T w → Rets P f all.toArray w fun u w' => u = v ∧ T w') : Qi P n ops T l ⟨some d, .call ⟨.value fop, args.toArray, tys⟩, ty, pos, aft, none⟩ v := fun a w ha hT => .inl ⟨wanted_none a, .inr ⟨f, all.toArray, run_callv rfl ha hf hargs hall hcal w, hc w hT⟩⟩
theorem Qi.callg {fop : Operand} {args : List Operand} {tys : Array TypeId} {f : FuncId} {caps vs all : List Value} (hg : guardOf ops l j = some (.bool want)) (hf : evl l fop = some (.func (.func f) #[] caps.toArray)) (hargs : evls l args = some vs) (hall : vs ++ caps = all) (hcal : Callable P f)
    (hc : ∀ w, T w → Rets P f all.toArray w fun u w' => u = v ∧ T w') : Qi P n ops T l ⟨some d, .call ⟨.value fop, args.toArray, tys⟩, ty, pos, aft, some (j, want)⟩ v := fun a w ha hT => .inl ⟨wanted_some hg a ha, .inr ⟨f, all.toArray, run_callv rfl ha hf hargs hall hcal w, hc w hT⟩⟩
theorem Pst.ap {α : Type} {G F1 : List Res} {Mid : List α → α → List (Nat × Value) → List Res → Prop} {pre : List α} {x : α} {l1 : List (Nat × Value)} (hM : Mid pre x l1 F1) (hs : Sb l l1) (H : Hp b S w (F1 ++ G)) : Pst n (APost n b S G Mid pre x) .normal l w := fun a ha => ⟨l1, F1, ha.sb hs, hM, H⟩
theorem Pst.rn {α : Type} {G F : List Res} {Jf : List α → List Res → Prop} {Jx : Code → List α → List Res → Prop} {pre : List α} (hJ : Jf pre F) (H : Hp b S w (F ++ G)) : Pst n (RPost b S G Jf Jx pre) .normal l w := fun _ _ => ⟨F, hJ, H⟩
theorem Pst.rr {α : Type} {G F : List Res} {Jf : List α → List Res → Prop} {Jx : Code → List α → List Res → Prop} {pre : List α} (hJ : Jx .ret pre F) (H : Hp b S w (F ++ G)) : Pst n (RPost b S G Jf Jx pre) .ret l w := fun _ _ => ⟨F, hJ, H⟩
theorem Pst.rx {α : Type} {G F : List Res} {Jf : List α → List Res → Prop} {Jx : Code → List α → List Res → Prop} {pre : List α} {id : Nat} (hJ : Jx (.exit id) pre F) (H : Hp b S w (F ++ G)) : Pst n (RPost b S G Jf Jx pre) (.exit id) l w := fun _ _ => ⟨F, hJ, H⟩
theorem Pst.bodyM_norm {fn : Func} {R : Value → World → Prop} (h : Pst n (bodyPostM Fence.wide 0 P fn (RR R)) .ret l w) : Pst n (bodyPostM Fence.wide 0 P fn (RR R)) .normal l w := h
theorem WP.enterI {k : Nat} {f : FuncId} {fn : Func} {c : Code} {y : Value} {caps : List Value} {R : Ending → World → Prop} (hf : P.funcs[f]? = some fn) (hb : fn.body = some c) (hn : fn.ntmps = k) (hle : Nat.ble (y :: caps).length k = true)
    (h : WP P (.bare k) c (enum 0 (y :: caps)) w (bodyPost P fn R)) : CallsIn Fence.wide 0 P f (#[y] ++ caps.toArray) w R := by
  have e : #[y] ++ caps.toArray = (y :: caps).toArray := by simp
  rw [e]
  refine callsIn_wide.2 (calls_of_wp hf hb (wpIn_wide.1 (h _ ⟨rfl, ?_, fun i v hv => ?_⟩)))
  · have := Nat.le_of_ble_eq_true hle
    simp [hn] at this ⊢; omega
  · obtain ⟨_, h2⟩ := look_enum _ 0 i v hv
    have hi : i < (y :: caps).length := (List.getElem?_eq_some_iff.1 h2).1
    simp only [Nat.sub_zero] at h2
    have h3 := (List.getElem?_eq_some_iff.1 h2).2
    have hi' : i < (y :: caps).toArray.size := by simpa using hi
    simp only [Array.getD_eq_getD_getElem?, Array.getElem?_append_left hi', List.getElem?_toArray, h2, Option.getD_some]
theorem Pst.retI {k : Nat} {fn : Func} {R : Ending → World → Prop} (hr : fn.results = #[]) (hR : R (.returned (.tuple #[])) w) : Pst (.bare k) (bodyPost P fn R) .ret l w := by
  intro a ha
  exact ⟨ha.defers.trans rfl, _, run_results (rs := []) (vs := []) ha hr rfl, hR⟩
theorem Pst.normI {k : Nat} {fn : Func} {R : Ending → World → Prop} (h : Pst (.bare k) (bodyPost P fn R) .ret l w) : Pst (.bare k) (bodyPost P fn R) .normal l w := h
end
end Go.Proofs.YtlnjmkmhmbijmaaGreat
