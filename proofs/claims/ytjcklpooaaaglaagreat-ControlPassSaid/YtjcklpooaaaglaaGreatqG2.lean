/- Loops over functions; functions that hold one; regions that draw their order inside a fence. -/
import Derived.RangeFuncSeq
import Derived.RangeFuncLeaves
import Derived.Shelf.SlSortCmp.NoneTotal
import Derived.Shelf.Sort.Plain
import Derived.Shelf.Slices.In.SortNone
import Derived.Sort.OwnSortedInts
import Derived.Shelf.Slices.CompactI
import Derived.MapKept
import Derived.ProofKit
import Derived.OpenShut
import Derived.ShutString
import Derived.ChangeOld
import Derived.Deep.Slices
import Derived.Deep.Fields
import Derived.Test.YtjcklpooaaaglaaGreatqG1
import Derived.Test.YtjcklpooaaaglaaGreatqG0
set_option linter.all false
namespace Go.Proofs.YtjcklpooaaaglaaGreat
open Go.RowKit

/-! ### regions that draw: blocks of operations that only read -/
def WI (P : Program) (n : Cx) (ops : Array Oper) (Q : Exit → Act → World → Prop) (fuel : Nat) (listed : Array Bool) (l : List (Nat × Value)) (w : World) : Prop :=
  ∀ a, Has n l a → wpAnyIn n.fence 0 P .any ops Q fuel listed a w
def blockOk (ops : Array Oper) (ids : List Nat) (rest : Nat) (full : Array Bool) : Nat → Array Bool → Bool
  | 0, listed => listed == full && rest == 0
  | f + 1, listed => if listed == full then f + 1 == rest else !(Region.ready .any ops listed).isEmpty && (Region.ready .any ops listed).all fun i => ids.contains i && blockOk ops ids rest full f (listed.setIfInBounds i true)
/-- the operation yields v and leaves S as it is -/
def Qi (P : Program) (n : Cx) (ops : Array Oper) (S : World → Prop) (l : List (Nat × Value)) (o : Oper) (v : Value) : Prop := ∀ a w, Has n l a → S w →
  (Region.wanted o (yielded ops a.tmps) = true ∧ ((execOp a.eval o).run P w = .ok (.value v) w ∨ ∃ f args, (execOp a.eval o).run P w = .ok (.enter f args) w ∧ Rets P f args w fun u w' => u = v ∧ S w')) ∨ (Region.wanted o (yielded ops a.tmps) = false ∧ v = undef)
/-- the operations on which one waits -/
def waitsOn (o : Oper) (A : List (Nat × Nat × Value)) : List (Nat × Value) := (A.filter fun q => o.after.toList.any fun e => Region.binds .any e && e.on == q.1).map (·.2)
def nodupB : List Nat → Bool
  | [] => true
  | x :: xs => !xs.contains x && nodupB xs
theorem nodupB_iff : ∀ {A : List (Nat × Nat × Value)}, nodupB (A.map (·.2.1)) = true → A.Pairwise fun p q => p.2.1 ≠ q.2.1
  | [], _ => List.Pairwise.nil
  | p :: A, h => by
    simp only [List.map_cons, nodupB, Bool.and_eq_true, Bool.not_eq_true'] at h
    refine List.pairwise_cons.2 ⟨fun q hq e => ?_, nodupB_iff h.2⟩
    have : (A.map (·.2.1)).contains p.2.1 = true := by
      rw [List.contains_iff_mem]; exact List.mem_map.2 ⟨q, hq, e.symm⟩
    rw [this] at h; cases h.1
structure Quiet1 (P : Program) (n : Cx) (ops : Array Oper) (S : World → Prop) (l : List (Nat × Value)) (A : List (Nat × Nat × Value)) (p : Nat × Nat × Value) : Prop where
  ex : ∃ o, ops[p.1]? = some o ∧ o.dst = some p.2.1 ∧ Nat.blt p.2.1 n.size = true ∧ look l p.2.1 = none ∧ Qi P n ops S (waitsOn o A ++ l) o p.2.2
section
variable {P : Program} {n : Cx} {l l' : List (Nat × Value)} {w : World} {Q : Exit → Act → World → Prop} {ops : Array Oper} {fuel : Nat} {listed : Array Bool}
theorem WP.dr {ol : List Oper} {id : Nat} {y : Code} (hm : P.follows .mixedOrders = true) (h : WI P n ol.toArray (Exit.then (cwp P n y Q) Q) ol.length (List.replicate ol.length false).toArray l w.drew) : WP P n (.seq (.region id ol.toArray true) y) l w Q := fun a ha => by
  exact wpIn_seq (wpIn_region_any (Q := Exit.then (cwp P n y Q) Q) hm (by have := h a ha; simpa using this))
theorem WI.one (i : Nat) {o : Oper} (hr : Region.ready .any ops listed = [i]) (hi : ops[i]? = some o) (h : WL P n ops Q (fun a w => wpAnyIn n.fence 0 P .any ops Q fuel (listed.setIfInBounds i true) a w) [o] l w) (hp : n.plain = false := by rfl) : WI P n ops Q (fuel + 1) listed l w := by
  intro a ha
  refine ⟨fun h0 => (by rw [hr] at h0; cases h0), fun j hj => ?_⟩
  rw [hr] at hj
  obtain rfl := List.mem_singleton.1 hj
  have h1 := h a ha
  unfold wpK at h1
  unfold wpOpIn
  rw [hi]
  show (if Region.wanted o (yielded ops a.tmps) then _ else _)
  split
  · rename_i hw
    rw [if_pos hw] at h1
    unfold opw at h1
    rw [hp] at h1
    exact h1
  · rename_i hw
    rw [if_neg hw] at h1
    exact ⟨fun _ _ => trivial, h1⟩
theorem WI.nx (k : WI P n ops Q fuel listed l w) : WL P n ops Q (fun a w => wpAnyIn n.fence 0 P .any ops Q fuel listed a w) [] l w := fun a ha => k a ha
theorem WI.dn {y : Code} (hr : Region.ready .any ops listed = []) (h : WP P n y l w Q) : WI P n ops (Exit.then (cwp P n y Q) Q) fuel listed l w := fun a ha => by
  cases fuel with
  | zero => exact ⟨hr, h a ha⟩
  | succ f => exact ⟨fun _ => h a ha, by rw [hr]; simp⟩
theorem WI.dne (hr : Region.ready .any ops listed = []) (h : Pst n Q .normal l w) : WI P n ops Q fuel listed l w := fun a ha => by
  cases fuel with
  | zero => exact ⟨hr, h a ha⟩
  | succ f => exact ⟨fun _ => h a ha, by rw [hr]; simp⟩
theorem WI.re {t : Nat} {u v : Value} (hl : look l t = some u) (e : u = v) (k : WI P n ops Q fuel listed ((t, v) :: l) w) : WI P n ops Q fuel listed l w := fun a ha => k a (ha.set hl e)
theorem Has.more {a : Act} (h : Has n l a) : ∀ {B : List (Nat × Value)}, (∀ q ∈ B, a.tmps.getD q.1 undef = q.2) → Has n (B ++ l) a
  | [], _ => h
  | q :: B, hB => by
    have h1 := Has.more h (B := B) fun q hq => hB q (by simp [hq])
    refine ⟨h.defers, h.size, fun i v hv => ?_⟩
    simp only [List.cons_append, look] at hv
    cases hb : Nat.beq q.1 i with
    | true => simp [hb] at hv; subst hv; rw [← Nat.eq_of_beq_eq_true hb]; exact hB q (by simp)
    | false => simp [hb] at hv; exact h1.get i v hv
theorem pairwise_ne {A : List (Nat × Nat × Value)} (hd : A.Pairwise fun p q => p.2.1 ≠ q.2.1) {p q : Nat × Nat × Value} (hp : p ∈ A) (hq : q ∈ A) (hne : p ≠ q) : p.2.1 ≠ q.2.1 := by
  induction A with
  | nil => simp at hp
  | cons x A ih =>
    have h := List.pairwise_cons.1 hd
    rcases List.mem_cons.1 hp with hp' | hp' <;> rcases List.mem_cons.1 hq with hq' | hq'
    · exact absurd (hp'.trans hq'.symm) hne
    · rw [hp']; exact h.1 q hq'
    · rw [hq']; exact fun e => h.1 p hp' e.symm
    · exact ih h.2 hp' hq'
theorem put_other {a : Act} {d k : Nat} {v : Value} (h : k ≠ d) : (a.put (some d) v).tmps.getD k undef = a.tmps.getD k undef := by
  simp [Act.put, Array.getD_eq_getD_getElem?, Array.getElem?_setIfInBounds_ne (Ne.symm h)]
theorem WI.block {S : World → Prop} (A : List (Nat × Nat × Value)) (rest : Nat) (full : Array Bool) (hok : blockOk ops (A.map (·.1)) rest full fuel listed = true) (hd : nodupB (A.map (·.2.1)) = true) (hfull : A.all (fun p => full.getD p.1 false) = true) (hl0 : A.all (fun p => !listed.getD p.1 false) = true)
    (hq : ∀ p ∈ A, Quiet1 P n ops S l A p) (hS : S w) (k : ∀ w', S w' → WI P n ops Q rest full (A.map (·.2) ++ l) w') (hp : n.plain = false := by rfl) : WI P n ops Q fuel listed l w := by
  have key : ∀ (fuel : Nat) (listed : Array Bool) (a : Act) (w : World), blockOk ops (A.map (·.1)) rest full fuel listed = true → Has n l a → (∀ p ∈ A, listed.getD p.1 false = true → a.tmps.getD p.2.1 undef = p.2.2) → S w → wpAnyIn n.fence 0 P .any ops Q fuel listed a w := by
    intro fuel
    induction fuel with
    | zero =>
      intro listed a w hb ha hv hS
      simp only [blockOk, Bool.and_eq_true, beq_iff_eq] at hb
      obtain ⟨rfl, rfl⟩ := hb
      refine k w hS a (ha.more fun q hq => ?_)
      obtain ⟨p, hpA, rfl⟩ := List.mem_map.1 hq
      exact hv p hpA (List.all_eq_true.1 hfull p hpA)
    | succ f ih =>
      intro listed a w hb ha hv hS
      unfold blockOk at hb
      split at hb
      · rename_i he
        have he' : listed = full := eq_of_beq he
        have hr' : f + 1 = rest := eq_of_beq hb
        subst he' hr'
        refine k w hS a (ha.more fun q hq => ?_)
        obtain ⟨p, hpA, rfl⟩ := List.mem_map.1 hq
        exact hv p hpA (List.all_eq_true.1 hfull p hpA)
      · simp only [Bool.and_eq_true, Bool.not_eq_true', List.isEmpty_eq_false_iff, List.all_eq_true] at hb
        refine ⟨fun h0 => absurd h0 hb.1, fun i hi => ?_⟩
        have h1 := hb.2 i hi
        have hmem : i ∈ A.map (·.1) := by simpa using h1.1
        obtain ⟨p, hpA, rfl⟩ := List.mem_map.1 hmem
        obtain ⟨o, ho, hdst, hblt, hnone, hqi⟩ := (hq p hpA).ex
        obtain ⟨hun, o', ho', hall⟩ := mem_ready.1 hi
        rw [ho] at ho'
        obtain rfl := Option.some.inj ho'
        have hfr : Has n (waitsOn o A ++ l) a := ha.more fun q hq => by
          obtain ⟨p', hp', rfl⟩ := List.mem_map.1 hq
          obtain ⟨h2, h3⟩ := List.mem_filter.1 hp'
          obtain ⟨e, he, h4⟩ := List.any_eq_true.1 h3
          simp only [Bool.and_eq_true, beq_iff_eq] at h4
          exact hv p' h2 (by rw [← h4.2]; exact hall e (by simpa using he) h4.1)
        have next : ∀ w', S w' → wpAnyIn n.fence 0 P .any ops Q f (listed.setIfInBounds p.1 true) (a.put (some p.2.1) p.2.2) w' := by
          intro w' hS'
          refine ih _ _ _ h1.2 ?_ (fun q hqA hlq => ?_) hS'
          · have h5 := ha.put hblt p.2.2
            refine ⟨h5.defers, h5.size, fun j u hu => h5.get j u ?_⟩
            unfold look
            cases hb' : Nat.beq p.2.1 j with
            | true => rw [← Nat.eq_of_beq_eq_true hb', hnone] at hu; cases hu
            | false => simpa [hb'] using hu
          · by_cases hd' : q.2.1 = p.2.1
            · have : q = p := by
                by_cases e : q = p
                · exact e
                · exact absurd hd' (pairwise_ne (nodupB_iff hd) hqA hpA e)
              subst this
              exact (ha.put hblt _).get _ _ (by simp [look])
            · rw [put_other hd']
              refine hv q hqA ?_
              by_cases e : p.1 = q.1
              · exfalso
                obtain ⟨o2, ho2, hdst2, _⟩ := (hq q hqA).ex
                rw [← e, ho] at ho2
                obtain rfl := Option.some.inj ho2
                rw [hdst] at hdst2
                exact hd' (Option.some.inj hdst2).symm
              · rw [← hlq]; simp only [Array.getD_eq_getD_getElem?, Array.getElem?_setIfInBounds_ne e]
        unfold wpOpIn
        rw [ho]
        rcases hqi a w hfr hS with ⟨hw, hrun⟩ | ⟨hw, hv'⟩
        · show (if Region.wanted o (yielded ops a.tmps) then _ else _)
          rw [if_pos hw]
          have hopw : ∀ K, opw P n o a w K Q → o.wpIn n.fence 0 P a w K Q := by intro K h; unfold opw at h; rw [hp] at h; exact h
          rcases hrun with hrun | ⟨g, args, hrun, hret⟩
          · exact hopw _ (opw_value hrun (by rw [hdst]; exact next w hS))
          · refine hopw _ (opw_enter hrun (Calls.mono hret ?_))
            rintro e w' ⟨v, rfl, rfl, hS'⟩
            exact ⟨_, rfl, by rw [hdst]; exact next w' hS'⟩
        · show (if Region.wanted o (yielded ops a.tmps) then _ else _)
          rw [if_neg (by rw [hw]; decide)]
          exact ⟨fun _ _ => trivial, by rw [hdst, ← hv']; exact next w hS⟩
  intro a ha
  exact key fuel listed a w hok ha (fun p hpA hl => by have := List.all_eq_true.1 hl0 p hpA; rw [hl] at this; cases this) hS
end

/-! ### objects of the heap that are no cells -/
def rObj (g : Nat) (o : Obj) : Res where
  W := fun b => b = g
  ok := fun _ w => w.heap[g]? = some o
  sub := fun _ h => h
  keep := fun {_ w _} hm h => (hm g (.inl rfl) (Array.getElem?_eq_some_iff.1 h).1).trans h
section
variable {P : Program} {b w : World} {S : Nat → Prop} {rs rest F G : List Res}
theorem Hp.obj {g : Nat} {o : Obj} (H : Hp b S w rs) (s : Sel rs (rObj g o) rest) : w.heap[g]? = some o := H.ok (rObj g o) (s.perm.mem_iff.2 (by simp))
theorem Hp.newObj (H : Hp b S w rs) (o : Obj) : Hp b S (w.alloc o) (rObj w.heap.size o :: rs) :=
  H.new (r := rObj w.heap.size o) (Ext.alloc w o) (fun g hg => by rw [show g = w.heap.size from hg]; simp) (World.alloc_heap_new w o)
theorem Hp.putObj {g : Nat} {o : Obj} (H : Hp b S w rs) (s : Sel rs (rObj g o) rest) (o' : Obj) : Hp b S (w.putObj g o') (rObj g o' :: rest) :=
  (H.sel s).put (r' := rObj g o') ⟨rfl, rfl, rfl, by simp, fun k hk hn => World.putObj_heap_other hn, Nat.le_refl _⟩ (fun g hg => .inl hg) (World.putObj_heap_same (Array.getElem?_eq_some_iff.1 (H.obj s)).1)
theorem Hp.comm (H : Hp b S w (F ++ G)) : Hp b S w (G ++ F) := H.perm List.perm_append_comm
end

/-! ### a loop over a function -/
/-- what a function that is ranged over does: it hands on ys, one behind the other, until it is told to stop; G0: what of the memory it looks at -/
def Iter (P : Program) (f : FuncId) (caps : List Value) {α : Type} (enc : α → List Value) (ys : List α) (b : World) (S : Nat → Prop) (G0 : List Res) : Prop :=
  ∀ (lr : Nat) (Jf Jx : List α → List Res → Prop) (w : World) (F0 : List Res), Hp b S w (F0 ++ G0) → Jf [] F0 →
    (∀ pre x W F G, Jf pre F → pre ++ [x] <+: ys → Hp b S W (F ++ G) → YieldAt Fence.wide 0 P lr (enc x).toArray W fun e W' =>
      (e = .returned (.bool true) ∧ ∃ F', Jf (pre ++ [x]) F' ∧ Hp b S W' (F' ++ G)) ∨ (e = .returned (.bool false) ∧ ∃ F', Jx (pre ++ [x]) F' ∧ Hp b S W' (F' ++ G))) →
    CallsIn Fence.wide 0 P f (#[.func (.yield lr) #[] #[]] ++ caps.toArray) w fun e w' => (∃ v, e = .returned v) ∧ ((∃ F', Jf ys F' ∧ Hp b S w' F') ∨ (∃ pre F', Jx pre F' ∧ Hp b S w' F'))

/-- an activation of a round -/
abbrev Cx.rnd (k lr : Nat) : Cx := ⟨k, some lr, [], false⟩
abbrev Cx.marked (k D : Nat) : Cx := ⟨k, none, [D], false⟩
def RPost {α : Type} (b : World) (S : Nat → Prop) (G : List Res) (Jf : List α → List Res → Prop) (Jx : Code → List α → List Res → Prop) (pre : List α) : Exit → Act → World → Prop
  | .normal, _, w => ∃ F, Jf pre F ∧ Hp b S w (F ++ G)
  | .ret, _, w => ∃ F, Jx .ret pre F ∧ Hp b S w (F ++ G)
  | .exit id, _, w => ∃ F, Jx (.exit id) pre F ∧ Hp b S w (F ++ G)
  | .goto t, _, w => ∃ F, Jx (.goto t) pre F ∧ Hp b S w (F ++ G)
  | _, _, _ => False
def APost {α : Type} (n : Cx) (b : World) (S : Nat → Prop) (G : List Res) (Mid : List α → α → List (Nat × Value) → List Res → Prop) (pre : List α) (x : α) : Exit → Act → World → Prop
  | .normal, a, w => ∃ l1 F1, Has n l1 a ∧ Mid pre x l1 F1 ∧ Hp b S w (F1 ++ G)
  | _, _, _ => False
theorem getD_foldl_zip : ∀ (ps : List Nat) (vs : List Value) (t : Array Value) (l : List (Nat × Value)) (k : Nat), ps.length = vs.length → (∀ p ∈ ps, p < k) → t.size = k → (∀ i v, look l i = some v → t.getD i undef = v) →
    ((ps.zip vs).foldl (fun t (p, v) => t.setIfInBounds p v) t).size = k ∧ ∀ i v, look ((ps.zip vs).reverse ++ l) i = some v → ((ps.zip vs).foldl (fun t (p, v) => t.setIfInBounds p v) t).getD i undef = v
  | [], vs, t, l, k, _, _, hs, hl => by
    simp only [List.zip_nil_left, List.foldl_nil, List.reverse_nil, List.nil_append]
    exact ⟨hs, hl⟩
  | p :: ps, [], t, l, k, h, _, _, _ => by simp at h
  | p :: ps, v :: vs, t, l, k, h, hp, hs, hl => by
    have hpk := hp p (by simp)
    simp only [List.zip_cons_cons, List.foldl_cons, List.reverse_cons, List.append_assoc, List.singleton_append]
    refine getD_foldl_zip ps vs _ ((p, v) :: l) k (by simpa using h) (fun q hq => hp q (by simp [hq])) (by simp [hs]) (fun i u hu => ?_)
    unfold look at hu
    cases hb : Nat.beq p i with
    | true =>
      have := Nat.eq_of_beq_eq_true hb
      subst this
      simp [hb] at hu
      subst hu
      simp [Array.getD_eq_getD_getElem?, hs, hpk]
    | false =>
      simp [hb] at hu
      have := hl i u hu
      simpa [Array.getD_eq_getD_getElem?, Array.getElem?_setIfInBounds_ne (Nat.ne_of_beq_eq_false hb)] using this
section
variable {P : Program} {k : Nat} {l : List (Nat × Value)} {b w : World} {S : Nat → Prop} {Q : Exit → Act → World → Prop}
theorem WP.range {α : Type} {g : Operand} {ps : List Nat} {assign body : Code} {f : FuncId} {caps : List Value} {enc : α → List Value} {ys : List α} {F0 G0 : List Res} (hg : evl l g = some (.func (.func f) #[] caps.toArray)) (hcal : Callable P f)
    (hit : Iter P f caps enc ys b S G0) (H : Hp b S w (F0 ++ G0)) (hps : ∀ x, (enc x).length = ps.length) (hpk : ps.all (fun p => Nat.blt p k) = true)
    (Jf : List α → List Res → Prop) (Jx : Code → List α → List Res → Prop) (Mid : List α → α → List (Nat × Value) → List Res → Prop) (h0 : Jf [] F0)
    (hassign : ∀ lr pre x F G W, Jf pre F → pre ++ [x] <+: ys → Hp b S W (F ++ G) → WP P (.rnd k lr) assign ((ps.zip (enc x)).reverse ++ l) W (APost (.rnd k lr) b S G Mid pre x))
    (hbody : ∀ lr pre x l1 F1 G W, Mid pre x l1 F1 → pre ++ [x] <+: ys → Hp b S W (F1 ++ G) → WP P (.rnd k lr) body l1 W (RPost b S G Jf Jx (pre ++ [x])))
    (hdone : ∀ D F w', Jf ys F → Hp b S w' (rObj D (.deferred (some [])) :: F) → Pst (.marked k D) Q .normal l w')
    (hstop : ∀ D c pre F w', Jx c pre F → Hp b S w' (rObj D (.deferred (some [])) :: F) → WP P (.marked k D) c l w' Q) :
    WP P (.bare k) (.rangeFunc g ps.toArray assign body) l w Q := by
  intro a ha
  have hgv := ha.eval hg
  refine wpIn_rangeFunc fun fn hfn => ?_
  obtain ⟨rec, hrec⟩ : ∃ rec : LoopState → Option Code → Loop, rec = fun st pe => { state := st, pending := pe, fn, tmps := a.tmps, params := ps.toArray, assign, body, defers := w.heap.size } := ⟨_, rfl⟩
  have H1 := H.newObj (.deferred (some []))
  have H2 := H1.newObj (.loop (rec .ready none))
  obtain ⟨W1, hW1⟩ : ∃ W1, (w.alloc (.deferred (some []))).alloc (.loop (rec .ready none)) = W1 := ⟨_, rfl⟩
  have hsz : (w.alloc (.deferred (some []))).heap.size = w.heap.size + 1 := by simp
  rw [hW1, hsz] at H2
  obtain ⟨D, hD⟩ : ∃ D, w.heap.size = D := ⟨_, rfl⟩
  obtain ⟨lr, hlr⟩ : ∃ lr, w.heap.size + 1 = lr := ⟨_, rfl⟩
  rw [hlr, hD] at H2
  refine ⟨lr, [{ target := .collected D, args := #[] }], W1, { target := .fn (.func f) caps.toArray, args := #[.func (.yield lr) #[] #[]] }, W1, f, #[.func (.yield lr) #[] #[]] ++ caps.toArray, W1, ?_, ?_, fun _ _ => trivial, ?_, (fun h => by cases h), ?_⟩
  · rw [← hW1, hrec, ← hD, ← hlr]; exact run_enterLoop_outer _ _ _ _ _
  · simp only [resolve, hgv]
    simp [go_sem]
  · simp only [invoke]
    exact hcal _ _
  · have Hn : Hp b S W1 ((rObj lr (.loop (rec .ready none)) :: rObj D (.deferred (some [])) :: F0) ++ G0) := H2
    refine (hit lr (fun pre F' => ∃ F, F' = rObj lr (.loop (rec .ready none)) :: rObj D (.deferred (some [])) :: F ∧ Jf pre F)
      (fun pre F' => ∃ c F, F' = rObj lr (.loop (rec .done (some c))) :: rObj D (.deferred (some [])) :: F ∧ Jx c pre F) W1 _ Hn ⟨F0, rfl, h0⟩ ?_).mono ?_
    · rintro pre x W F' G ⟨F, rfl, hJ⟩ hpre Hw
      have hobj : W.heap[lr]? = some (.loop (rec .ready none)) := Hw.obj s0
      have hy := run_yield (P := P) (args := (enc x).toArray) hobj (by rw [hrec]; simp [hps])
      rw [hrec] at hy
      refine ⟨fn, _, assign, body, hy, roundIn_of_wpIn trivial ?_⟩
      have Hw2 : Hp b S W (F ++ (rObj lr (.loop (rec .ready none)) :: rObj D (.deferred (some [])) :: G)) :=
        Hw.perm (by
          have : (rObj lr (.loop (rec .ready none)) :: rObj D (.deferred (some [])) :: F) ++ G = [rObj lr (.loop (rec .ready none)), rObj D (.deferred (some []))] ++ F ++ G := by simp
          rw [this]
          refine (List.perm_append_comm.append_right G).trans ?_
          rw [List.append_assoc]
          exact List.Perm.refl _)
      have hfr := getD_foldl_zip ps (enc x) a.tmps l k (hps x).symm (fun p hp => by have := List.all_eq_true.1 hpk p hp; simpa [Nat.blt_eq] using this) ha.size ha.get
      have hHas : Has (.rnd k lr) ((ps.zip (enc x)).reverse ++ l) { tmps := (ps.toArray.zip (enc x).toArray).foldl (fun t (p, v) => t.setIfInBounds p v) a.tmps, defers := [] } := by
        have he : (ps.toArray.zip (enc x).toArray).foldl (fun t (p, v) => t.setIfInBounds p v) a.tmps = (ps.zip (enc x)).foldl (fun t (p, v) => t.setIfInBounds p v) a.tmps := by
          rw [List.zip_toArray, List.foldl_toArray]
        rw [he]
        exact ⟨rfl, hfr.1, hfr.2⟩
      have has := hassign lr pre x F _ W hJ hpre Hw2 _ hHas
      refine wpIn_mono has ?_
      rintro e a1 w1 hq
      cases e with
      | normal =>
        obtain ⟨l1, F1, hh1, hmid, Hm⟩ := hq
        have hcm : ∀ {W' : World} {FF GG : List Res} {o1 o2 : Obj}, Hp b S W' (FF ++ (rObj lr o1 :: rObj D o2 :: GG)) → Hp b S W' (rObj lr o1 :: rObj D o2 :: (FF ++ GG)) := fun h => h.perm (by
          refine (List.perm_append_comm).trans ?_
          exact ((List.perm_append_comm).cons _).cons _)
        have Hm1 := hcm Hm
        refine ⟨_, run_beginRound (Hm1.obj s0) (by rw [hrec]), ?_⟩
        have Hm2 := Hm1.putObj s0 (.loop { rec .ready none with state := .busy })
        have Hm3 : Hp b S (w1.putObj lr (.loop { rec .ready none with state := .busy })) (F1 ++ (rObj lr (.loop { rec .ready none with state := .busy }) :: rObj D (.deferred (some [])) :: G)) := Hm2.perm (by
          refine List.Perm.trans ?_ (List.perm_append_comm)
          exact ((List.perm_append_comm).cons _).cons _)
        refine wpIn_mono (hbody lr pre x l1 F1 _ _ hmid hpre Hm3 a1 hh1) ?_
        have fin : ∀ (jump : Option Code) (W3 : World) (F3 : List Res), Hp b S W3 (F3 ++ (rObj lr (.loop { rec .ready none with state := .busy }) :: rObj D (.deferred (some [])) :: G)) →
            ∃ W4, (Instr.endRound lr jump).run P W3 = .ok (.bool jump.isNone) W4 ∧ Hp b S W4 ((rObj lr (.loop (rec (if jump.isNone then .ready else .done) jump)) :: rObj D (.deferred (some [])) :: F3) ++ G) := fun jump W3 F3 h3 => by
          have h4 := hcm h3
          have h5 := run_endRound (P := P) jump (h4.obj s0)
          have h6 := h4.putObj s0 (.loop (rec (if jump.isNone then .ready else .done) jump))
          rw [hrec] at h5 h6 ⊢
          exact ⟨_, h5, h6⟩
        rintro e a3 W3 hp3
        cases e with
        | normal =>
          obtain ⟨F3, hJ3, h3⟩ := hp3
          obtain ⟨W4, hr4, h4⟩ := fin none W3 F3 h3
          exact ⟨_, _, hr4, .inl ⟨rfl, _, ⟨F3, rfl, hJ3⟩, h4⟩⟩
        | ret =>
          obtain ⟨F3, hJ3, h3⟩ := hp3
          obtain ⟨W4, hr4, h4⟩ := fin (some .ret) W3 F3 h3
          exact ⟨_, _, hr4, .inr ⟨rfl, _, ⟨.ret, F3, rfl, hJ3⟩, h4⟩⟩
        | exit id =>
          obtain ⟨F3, hJ3, h3⟩ := hp3
          obtain ⟨W4, hr4, h4⟩ := fin (some (.exit id)) W3 F3 h3
          exact ⟨_, _, hr4, .inr ⟨rfl, _, ⟨.exit id, F3, rfl, hJ3⟩, h4⟩⟩
        | goto t =>
          obtain ⟨F3, hJ3, h3⟩ := hp3
          obtain ⟨W4, hr4, h4⟩ := fin (some (.goto t)) W3 F3 h3
          exact ⟨_, _, hr4, .inr ⟨rfl, _, ⟨.goto t, F3, rfl, hJ3⟩, h4⟩⟩
        | panic ch => exact hp3.elim
        | outgrown => exact hp3.elim
      | ret => exact hq.elim
      | exit id => exact hq.elim
      | goto t => exact hq.elim
      | panic ch => exact hq.elim
      | outgrown => exact hq.elim
    · have hdf : ({ a with defers := [{ target := .collected D, args := #[] }] ++ a.defers } : Act).defers = (Cx.marked k D).defers := by
        rw [ha.defers]; rfl
      rintro e W2 ⟨⟨v, rfl⟩, (⟨F', ⟨F, rfl, hJ⟩, h2⟩ | ⟨pre, F', ⟨c, F, rfl, hJ⟩, h2⟩)⟩
      · have h3 := run_endLoop (P := P) (h2.obj s0) (by rw [hrec]; simp)
        have h4 := (h2.putObj s0 (.loop { rec .ready none with state := .exhausted })).tail
        refine ⟨none, _, h3.trans (congrArg (fun p => Result.ok p _) (show (rec .ready none).pending = none by rw [hrec])), ?_⟩
        exact hdone D F _ hJ h4 _ ⟨hdf, ha.size, ha.get⟩
      · have h3 := run_endLoop (P := P) (h2.obj s0) (by rw [hrec]; simp)
        have h4 := (h2.putObj s0 (.loop { rec .done (some c) with state := .exhausted })).tail
        refine ⟨some c, _, h3.trans (congrArg (fun p => Result.ok p _) (show (rec .done (some c)).pending = some c by rw [hrec])), ?_⟩
        exact hstop D c pre F _ hJ h4 _ ⟨hdf, ha.size, ha.get⟩
end

/-! ### a function that holds a loop over a function: its beginning, its end -/
/-- what the result variables hold -/
def Resv (P : Program) (l : List (Nat × Value)) (w : World) : List ResultVar → List Value → Prop
  | [], vs => vs = []
  | .tmp t :: rs, vs => ∃ v us, vs = v :: us ∧ look l t = some v ∧ Resv P l w rs us
  | .cell a t :: rs, vs => ∃ v us, vs = v :: us ∧ (∃ p, look l a = some (.pointer (some p)) ∧ (loadVar t p).run P w = .ok v w) ∧ Resv P l w rs us
section
variable {P : Program} {n : Cx} {l : List (Nat × Value)} {b w : World} {S : Nat → Prop}
theorem run_resv (f : ResultVar → Sem Value) (a : Act) (hf : ∀ t, f (.tmp t) = pure (a.tmps.getD t undef)) (hc : ∀ c t, f (.cell c t) = (do loadVar t (← asAddr (a.tmps.getD c undef)))) (ha : Has n l a) : ∀ (rs : List ResultVar) (vs : List Value), Resv P l w rs vs → (rs.mapM f).run P w = .ok vs w
  | [], vs, h => by simp [Resv] at h; subst h; rfl
  | .tmp t :: rs, vs, h => by
    obtain ⟨v, us, rfl, h1, h2⟩ := h
    have h3 := run_resv f a hf hc ha rs us h2
    have hg := ha.get t v h1
    simp only [List.mapM_cons, Sem.run_bind, Sem.run_pure, Result.andThen_ok, hf, hg, h3]
  | .cell c t :: rs, vs, h => by
    obtain ⟨v, us, rfl, ⟨p, h1, hp⟩, h2⟩ := h
    have h3 := run_resv f a hf hc ha rs us h2
    have hg := ha.get c _ h1
    have h4 : (do loadVar t (← asAddr (a.tmps.getD c undef)) : Sem Value).run P w = .ok v w := by
      simp [hg, asAddr, hp]
    simp only [List.mapM_cons, Sem.run_bind, Sem.run_pure, Result.andThen_ok, hc, h3]
    rw [← Sem.run_bind, h4]
    simp only [Result.andThen_ok, h3, Sem.run_bind, Sem.run_pure]
theorem loads_box {t t' : TypeId} {k g : Nat} {cs : List Value} (hn : Agg P t k) (hk : cs.length = k) (hb : Bx w g t' cs) : (loadVar t ⟨g, 0, none⟩).run P w = .ok (.agg cs.toArray) w := by
  have h1 := run_loadCells_list (P := P) w ⟨g, 0, none⟩ cs (fun j u hu => by rw [Addr.add_lit, hb.cell]; simpa using hu)
  rw [hk] at h1
  simp [loadVar, hn.1 w, hn.2 w, h1]
theorem run_results {fn : Func} {a : Act} {rs : List ResultVar} {vs : List Value} (ha : Has n l a) (hr : fn.results = rs.toArray) (h : Resv P l w rs vs) : (results fn a.tmps).run P w = .ok (wrapRes vs) w := by
  unfold results
  rw [hr, Sem.run_bind, List.mapM_toArray, Sem.run_map, run_resv (P := P) (w := w) _ a (fun _ => rfl) (fun _ _ => rfl) ha rs vs h]
  simp only [Result.andThen_ok, Sem.run_pure]
  match vs with
  | [] => simp [wrapRes]
  | [v] => simp [wrapRes]
  | u :: v :: vs => simp [wrapRes]
theorem WP.enterM {k : Nat} {f : FuncId} {fn : Func} {c : Code} {vs : List Value} {R : Value → World → Prop} (hf : P.funcs[f]? = some fn) (hb : fn.body = some c) (hn : fn.ntmps = k) (hle : Nat.ble vs.length k = true)
    (h : WP P (.bare k) c (enum 0 vs) w (bodyPostM Fence.wide 0 P fn (RR R))) : Rets P f vs.toArray w R := by
  refine (callsIn_wide (n := 0)).1 (callsIn_of_wp_marks hf hb trivial (h _ ⟨rfl, ?_, fun i v hv => ?_⟩))
  · have := Nat.le_of_ble_eq_true hle
    simp [hn]; omega
  · obtain ⟨_, h2⟩ := look_enum vs 0 i v hv
    have hi : i < vs.length := (List.getElem?_eq_some_iff.1 h2).1
    simp only [Nat.sub_zero] at h2
    have h3 := (List.getElem?_eq_some_iff.1 h2).2
    simp [Array.getElem?_append, hi, h3]
theorem Pst.retC {k : Nat} {fn : Func} {R : Value → World → Prop} {rs : List ResultVar} {vs : List Value} (hr : fn.results = rs.toArray) (h : Resv P l w rs vs) (hR : R (wrapRes vs) w) : Pst (.bare k) (bodyPost P fn (RR R)) .ret l w := by
  intro a ha
  exact ⟨ha.defers.trans rfl, _, run_results ha hr h, _, rfl, hR⟩
/-- its end, behind the loop -/
theorem Pst.retM {k D : Nat} {fn : Func} {R : Value → World → Prop} {rs : List ResultVar} {F : List Res} (H : Hp b S w (rObj D (.deferred (some [])) :: F)) (hr : fn.results = rs.toArray)
    (h : ∀ w', Hp b S w' F → ∃ vs, Resv P l w' rs vs ∧ R (wrapRes vs) w') : Pst (.marked k D) (bodyPostM Fence.wide 0 P fn (RR R)) .ret l w := by
  intro a ha
  show LeavesInM Fence.wide 0 P fn a.tmps (RR R) a.defers .returning w
  rw [ha.defers]
  have h1 := run_takeDeferred (P := P) (H.obj s0)
  have h2 := (H.putObj s0 (.deferred none)).tail
  obtain ⟨vs, h3, h4⟩ := h _ h2
  refine ⟨by simp, .inl ⟨D, _, rfl, h1, ?_⟩⟩
  exact ⟨_, run_results ha hr h3, _, rfl, h4⟩
/-- ahead of it -/
theorem Pst.retB {k : Nat} {fn : Func} {R : Value → World → Prop} {rs : List ResultVar} {vs : List Value} (hr : fn.results = rs.toArray) (h : Resv P l w rs vs) (hR : R (wrapRes vs) w) : Pst (.bare k) (bodyPostM Fence.wide 0 P fn (RR R)) .ret l w := by
  intro a ha
  show LeavesInM Fence.wide 0 P fn a.tmps (RR R) a.defers .returning w
  rw [ha.defers]
  exact ⟨_, run_results ha hr h, _, rfl, hR⟩
/-- a call of yield -/
theorem WL.yield {Q : Exit → Act → World → Prop} {K : Act → World → Prop} {ops : Array Oper} {os : List Oper} {ty : TypeId} {pos : String} {aft : Array Edge} {d lr : Nat} {fop : Operand} {args : List Operand} {tys : Array TypeId} {vs : List Value} {R : Ending → World → Prop} {g : Option (Nat × Bool)}
    (hg : match g with | none => True | some (j, want) => guardOf ops l j = some (.bool want)) (hf : evl l fop = some (.func (.yield lr) #[] #[])) (hargs : evls l args = some vs) (hy : YieldAt Fence.wide 0 P lr vs.toArray w R) (hR : ∀ e w', R e w' → ∃ v, e = .returned v) (hd : Nat.blt d n.size = true) (hro : n.round = none) (hp : n.plain = false)
    (k : ∀ v w', R (.returned v) w' → WL P n ops Q K os ((d, v) :: l) w') : WL P n ops Q K (⟨some d, .call ⟨.value fop, args.toArray, tys⟩, ty, pos, aft, g⟩ :: os) l w := by
  intro a ha
  unfold wpK
  have hw : Region.wanted ⟨some d, .call ⟨.value fop, args.toArray, tys⟩, ty, pos, aft, g⟩ (yielded ops a.tmps) = true := by
    match g, hg with
    | none, _ => rfl
    | some (j, want), hg => exact wanted_some hg a ha
  rw [if_pos hw]
  unfold opw
  rw [hp]
  obtain ⟨fn, tmps, assign, body, hy1, hy2⟩ := hy
  refine ⟨fun _ _ => trivial, ?_⟩
  have hrun : (execOp a.eval ⟨some d, .call ⟨.value fop, args.toArray, tys⟩, ty, pos, aft, g⟩).run P w = .ok (.round lr fn tmps assign body) w := by
    unfold execOp
    have h1 := ha.eval hf
    have h2 := ha.evals hargs
    simp only [resolve, h1, Deferred.ofValue, Sem.run_bind, Sem.run_pure, Result.andThen_ok, invoke]
    have : (#[] ++ Array.map a.eval args.toArray : Array Value) = vs.toArray := by
      rw [List.map_toArray, h2]; simp
    rw [this]
    exact hy1
  have hrd : n.fence.round = none := hro
  rw [hrd, Oper.semAt_none, hrun]
  rw [Cx.fence_wide hro]
  refine ⟨fun h => (by cases h), RoundIn.mono hy2 ?_⟩
  rintro e w' hq
  obtain ⟨v, rfl⟩ := hR e w' hq
  exact k v w' hq _ (ha.put hd v)
end

section
variable {P : Program} {n : Cx} {l l' : List (Nat × Value)} {b w : World} {S : Nat → Prop} {ops : Array Oper} {T : World → Prop} {op : Op} {ty : TypeId} {pos : String} {aft : Array Edge} {d j : Nat} {want : Bool} {v : Value}
theorem Qi.ev (h : ∀ w, T w → Ev P n l w op v) : Qi P n ops T l ⟨some d, op, ty, pos, aft, none⟩ v := fun a w ha hT => .inl ⟨wanted_none a, .inl (h w hT _ a w rfl ha (Ext.refl w))⟩
theorem Qi.evg (hg : guardOf ops l j = some (.bool want)) (h : ∀ w, T w → Ev P n l w op v) : Qi P n ops T l ⟨some d, op, ty, pos, aft, some (j, want)⟩ v := fun a w ha hT => .inl ⟨wanted_some hg a ha, .inl (h w hT _ a w rfl ha (Ext.refl w))⟩
theorem Qi.pass {u : Value} (hg : guardOf ops l j = some u) (hv : unlike want u = true) : Qi P n ops T l ⟨some d, op, ty, pos, aft, some (j, want)⟩ undef := fun a w ha hT => .inr ⟨by
  show (yielded ops a.tmps j == some want) = false
  rw [yielded_of ha hg]
  cases u <;> simp [unlike] at hv ⊢
  cases want <;> simp_all, rfl⟩
theorem Qi.call {fop : Operand} {args : List Operand} {tys : Array TypeId} {f : FuncId} {caps vs all : List Value} (hf : evl l fop = some (.func (.func f) #[] caps.toArray)) (hargs : evls l args = some vs) (hall : vs ++ caps = all) (hcal : Callable P f)
    (hc : ∀ w, T w → Rets P f all.toArray w fun u w' => u = v ∧ T w') : Qi P n ops T l ⟨some d, .call ⟨.value fop, args.toArray, tys⟩, ty, pos, aft, none⟩ v := fun a w ha hT => .inl ⟨wanted_none a, .inr ⟨f, all.toArray, run_callv rfl ha hf hargs hall hcal w, hc w hT⟩⟩
theorem Qi.callg {fop : Operand} {args : List Operand} {tys : Array TypeId} {f : FuncId} {caps vs all : List Value} (hg : guardOf ops l j = some (.bool want)) (hf : evl l fop = some (.func (.func f) #[] caps.toArray)) (hargs : evls l args = some vs) (hall : vs ++ caps = all) (hcal : Callable P f)
    (hc : ∀ w, T w → Rets P f all.toArray w fun u w' => u = v ∧ T w') : Qi P n ops T l ⟨some d, .call ⟨.value fop, args.toArray, tys⟩, ty, pos, aft, some (j, want)⟩ v := fun a w ha hT => .inl ⟨wanted_some hg a ha, .inr ⟨f, all.toArray, run_callv rfl ha hf hargs hall hcal w, hc w hT⟩⟩
theorem Pst.ap {α : Type} {G F1 : List Res} {Mid : List α → α → List (Nat × Value) → List Res → Prop} {pre : List α} {x : α} {l1 : List (Nat × Value)} (hM : Mid pre x l1 F1) (hs : Sb l l1) (H : Hp b S w (F1 ++ G)) : Pst n (APost n b S G Mid pre x) .normal l w := fun a ha => ⟨l1, F1, ha.sb hs, hM, H⟩
theorem Pst.rn {α : Type} {G F : List Res} {Jf : List α → List Res → Prop} {Jx : Code → List α → List Res → Prop} {pre : List α} (hJ : Jf pre F) (H : Hp b S w (F ++ G)) : Pst n (RPost b S G Jf Jx pre) .normal l w := fun _ _ => ⟨F, hJ, H⟩
theorem Pst.rx {α : Type} {G F : List Res} {Jf : List α → List Res → Prop} {Jx : Code → List α → List Res → Prop} {pre : List α} {id : Nat} (hJ : Jx (.exit id) pre F) (H : Hp b S w (F ++ G)) : Pst n (RPost b S G Jf Jx pre) (.exit id) l w := fun _ _ => ⟨F, hJ, H⟩
theorem WP.enterI {k : Nat} {f : FuncId} {fn : Func} {c : Code} {y : Value} {caps : List Value} {R : Ending → World → Prop} (hf : P.funcs[f]? = some fn) (hb : fn.body = some c) (hn : fn.ntmps = k) (hle : Nat.ble (y :: caps).length k = true)
    (h : WP P (.bare k) c (enum 0 (y :: caps)) w (bodyPost P fn R)) : CallsIn Fence.wide 0 P f (#[y] ++ caps.toArray) w R := by
  have e : #[y] ++ caps.toArray = (y :: caps).toArray := by simp
  rw [e]
  refine callsIn_wide.2 (calls_of_wp hf hb (wpIn_wide.1 (h _ ⟨rfl, ?_, fun i v hv => ?_⟩)))
  · have := Nat.le_of_ble_eq_true hle
    simp [hn] at this ⊢; omega
  · obtain ⟨_, h2⟩ := look_enum _ 0 i v hv
    have hi : i < (y :: caps).length := (List.getElem?_eq_some_iff.1 h2).1
    simp only [Nat.sub_zero] at h2
    have h3 := (List.getElem?_eq_some_iff.1 h2).2
    have hi' : i < (y :: caps).toArray.size := by simpa using hi
    simp only [Array.getD_eq_getD_getElem?, Array.getElem?_append_left hi', List.getElem?_toArray, h2, Option.getD_some]
theorem Pst.retI {k : Nat} {fn : Func} {R : Ending → World → Prop} (hr : fn.results = #[]) (hR : R (.returned (.tuple #[])) w) : Pst (.bare k) (bodyPost P fn R) .ret l w := by
  intro a ha
  exact ⟨ha.defers.trans rfl, _, run_results (rs := []) (vs := []) ha hr rfl, hR⟩
theorem Pst.normI {k : Nat} {fn : Func} {R : Ending → World → Prop} (h : Pst (.bare k) (bodyPost P fn R) .ret l w) : Pst (.bare k) (bodyPost P fn R) .normal l w := h
end
end Go.Proofs.YtjcklpooaaaglaaGreat
set_option linter.all false
namespace Go.Proofs.YtjcklpooaaaglaaGreat
open Go.RowKit

/-! ### delete -/
section
variable {P : Program} {w : World}
end
section
variable {P : Program} {n : Cx} {l : List (Nat × Value)} {b w : World} {S : Nat → Prop} {rs rest : List Res} {Q : Exit → Act → World → Prop} {K : Act → World → Prop} {ops : Array Oper} {os : List Oper} {ty : TypeId} {pos : String} {aft : Array Edge} {d : Nat}
theorem Rel.len {α : Type} {τ : Ty α} {S : Nat → Prop} {xs : List α} {us : List (Cells τ.k)} (h : Rel τ S w xs us) : us.length = xs.length := h.1
theorem WL.valn {o : Oper} {v : Value} (hw : ∀ a, Has n l a → Region.wanted o (yielded ops a.tmps) = true) (hdst : o.dst = none) {R : World → Prop}
    (hrun : ∀ a, Has n l a → ∃ w', (execOp a.eval o).run P w = .ok (.value v) w' ∧ R w') (k : ∀ w', R w' → WL P n ops Q K os l w') : WL P n ops Q K (o :: os) l w := by
  intro a ha
  obtain ⟨w', hr, hR⟩ := hrun a ha
  unfold wpK
  rw [if_pos (hw a ha)]
  refine opw_value hr ?_
  rw [hdst]
  exact k w' hR a ha
/-- what lies behind an own row is cleared -/
theorem clrs {α : Type} {τ : Ty α} {t e : TypeId} {bytes c m : Nat} {A : Option Addr} {xs : List α} {x : Operand} (H : Hp b S w rs) (s : Sel rs (rOwn τ e A c xs) rest) (hx : evl l x = some (.slice (cutA A c xs.length τ.k) m (c - xs.length))) (hT : P.underlying t = some (.slice e)) (hz : ElemZero P e τ.k bytes) (hm : xs.length + m ≤ c)
    (k : ∀ w', Hp b S w' (rOwn τ e A c xs :: rest) → WL P n ops Q K os l w') : WL P n ops Q K (⟨none, .call ⟨.builtin .clear, #[x], #[t]⟩, ty, pos, aft, none⟩ :: os) l w := by
  obtain ⟨us, hU, hr⟩ := H.raw s
  have hl := hr.1
  obtain ⟨w', hrun, ho', hg, hz'⟩ := run_clearSpare (P := P) (ty := ty) (m := m) hT hz hU (by rw [hl]; exact hm)
  rw [hl] at hrun
  refine WL.valn (v := .tuple #[]) (fun a _ => wanted_none a) rfl (R := fun w2 => w2 = w') (fun a ha => ⟨w', ?_, rfl⟩) fun w2 e => ?_
  · unfold execOp
    simp only [resolve, Sem.run_bind, Sem.run_pure, Result.andThen_ok, invoke, builtin, List.map_toArray, List.map_cons, List.map_nil, ha.eval hx, hrun]
  · rw [e]
    exact k w' (H.back (β := Unit) s ho' hr hg (fun g hg' => .inl hg'))
theorem Ev.nilCheck {x : Operand} {p : Addr} (hx : evl l x = some (.pointer (some p))) : Ev P n l w (.nilCheck x) (.pointer (some p)) := fun o a w' ho ha _ => by
  unfold execOp; rw [ho]; simp [ha.eval hx]
end

/-! ### a row whose elements hold rows of the call's own -/
/-- rows of the call's own, each apart from the others -/
def rRows {α : Type} (τ : Ty α) (e : TypeId) (L : List (Option Addr × Nat × List α)) : Res where
  W := fun g => ∃ r ∈ L, blk r.1 = some g
  ok := fun S w => (∀ r ∈ L, Own τ e 0 S w r.1 r.2.1 r.2.2) ∧ L.Pairwise fun (p q : Option Addr × Nat × List α) => ∀ g, blk p.1 = some g → blk q.1 ≠ some g
  sub := fun hs h => ⟨fun r hr => (h.1 r hr).low (Nat.le_refl _) hs, h.2⟩
  keep := fun hm h => ⟨fun r hr => (h.1 r hr).keep fun g hg => hm g (hg.imp (fun h => ⟨r, hr, h⟩) id), h.2⟩
/-- rows that may be read -/
def rIns {α : Type} (τ : Ty α) (L : List (Option Addr × Nat × List α)) : Res where
  W := fun _ => False
  ok := fun S w => ∀ r ∈ L, Sl τ S w r.1 r.2.1 r.2.2
  sub := fun hs h => fun r hr => (h r hr).sub hs
  keep := fun hm h => fun r hr => (h r hr).keep fun g hg => hm g (.inr hg)
section
variable {α : Type} {τ : Ty α} {e : TypeId} {b w : World} {S : Nat → Prop} {rs rest rest2 : List Res} {L : List (Option Addr × Nat × List α)}
theorem Hp.rows0 (H : Hp b S w rs) (τ : Ty α) (e : TypeId) : Hp b S w (rRows τ e [] :: rs) :=
  H.new (r := rRows τ e []) (Ext.refl w) (fun g ⟨r, hr, _⟩ => by simp at hr) ⟨fun r hr => by simp at hr, List.Pairwise.nil⟩
/-- two resources become one -/
theorem Hp.join {r1 r2 r : Res} (H : Hp b S w (r1 :: r2 :: rs)) (hW : ∀ g, r.W g ↔ r1.W g ∨ r2.W g) (hok : ∀ {S' : Nat → Prop}, r1.ok S' w → r2.ok S' w → (∀ g, r1.W g → ¬ r2.W g) → r.ok S' w) : Hp b S w (r :: rs) := by
  have h1 := List.pairwise_cons.1 H.dis
  have h2 := List.pairwise_cons.1 h1.2
  have hs : ∀ g, Rd b S (r1 :: r2 :: rs) w g → Rd b S (r :: rs) w g := by
    rintro g (h | ⟨h3, h4, h5⟩)
    · exact .inl h
    · refine .inr ⟨h3, h4, fun q hq => ?_⟩
      rcases List.mem_cons.1 hq with rfl | hq
      · intro h; rcases (hW g).1 h with h | h
        · exact h5 r1 (by simp) h
        · exact h5 r2 (by simp) h
      · exact h5 q (by simp [hq])
  refine ⟨H.ext, fun q hq => ?_, fun q hq g hg => ?_, List.pairwise_cons.2 ⟨fun q hq g hg => ?_, h2.2⟩⟩
  · rcases List.mem_cons.1 hq with rfl | hq
    · exact q.sub hs (hok (H.ok r1 (by simp)) (H.ok r2 (by simp)) (h1.1 r2 (by simp)))
    · exact q.sub hs (H.ok q (by simp [hq]))
  · rcases List.mem_cons.1 hq with rfl | hq
    · rcases (hW g).1 hg with h | h
      · exact H.lo r1 (by simp) g h
      · exact H.lo r2 (by simp) g h
    · exact H.lo q (by simp [hq]) g hg
  · rcases (hW g).1 hg with h | h
    · exact h1.1 q (by simp [hq]) g h
    · exact h2.1 q hq g h
/-- one becomes two -/
theorem Hp.split {r1 r2 r : Res} (H : Hp b S w (r :: rs)) (hW : ∀ g, r.W g ↔ r1.W g ∨ r2.W g) (hok : ∀ {S' : Nat → Prop}, r.ok S' w → r1.ok S' w ∧ r2.ok S' w ∧ ∀ g, r1.W g → ¬ r2.W g) : Hp b S w (r1 :: r2 :: rs) := by
  have h1 := List.pairwise_cons.1 H.dis
  have h0 := hok (H.ok r (by simp))
  have hs : ∀ g, Rd b S (r :: rs) w g → Rd b S (r1 :: r2 :: rs) w g := by
    rintro g (h | ⟨h3, h4, h5⟩)
    · exact .inl h
    · refine .inr ⟨h3, h4, fun q hq => ?_⟩
      rcases List.mem_cons.1 hq with rfl | hq
      · exact fun h => h5 r (by simp) ((hW g).2 (.inl h))
      · rcases List.mem_cons.1 hq with rfl | hq
        · exact fun h => h5 r (by simp) ((hW g).2 (.inr h))
        · exact h5 q (by simp [hq])
  refine ⟨H.ext, fun q hq => ?_, fun q hq g hg => ?_, List.pairwise_cons.2 ⟨fun q hq g hg => ?_, List.pairwise_cons.2 ⟨fun q hq g hg => h1.1 q hq g ((hW g).2 (.inr hg)), h1.2⟩⟩⟩
  · rcases List.mem_cons.1 hq with rfl | hq
    · exact q.sub hs h0.1
    · rcases List.mem_cons.1 hq with rfl | hq
      · exact q.sub hs h0.2.1
      · exact q.sub hs (H.ok q (by simp [hq]))
  · rcases List.mem_cons.1 hq with rfl | hq
    · exact H.lo r (by simp) g ((hW g).2 (.inl hg))
    · rcases List.mem_cons.1 hq with rfl | hq
      · exact H.lo r (by simp) g ((hW g).2 (.inr hg))
      · exact H.lo q (by simp [hq]) g hg
  · rcases List.mem_cons.1 hq with rfl | hq
    · exact h0.2.2 g hg
    · exact h1.1 q hq g ((hW g).2 (.inl hg))
theorem Hp.rowsPush {B : Option Addr} {d : Nat} {xs : List α} (H : Hp b S w rs) (s : Sel rs (rOwn τ e B d xs) rest) (s' : Sel rest (rRows τ e L) rest2) : Hp b S w (rRows τ e (L ++ [(B, d, xs)]) :: rest2) := by
  have H1 : Hp b S w (rOwn τ e B d xs :: rRows τ e L :: rest2) := (H.sel s).perm (s'.perm.cons _)
  refine H1.join (fun g => ?_) (fun {S'} h1 h2 h3 => ?_)
  · constructor
    · rintro ⟨r, hr, hg⟩
      rcases List.mem_append.1 hr with hr | hr
      · exact .inr ⟨r, hr, hg⟩
      · rw [List.mem_singleton.1 hr] at hg; exact .inl hg
    · rintro (h | ⟨r, hr, hg⟩)
      · exact ⟨(B, d, xs), by simp, h⟩
      · exact ⟨r, by simp [hr], hg⟩
  · refine ⟨fun r hr => ?_, List.pairwise_append.2 ⟨h2.2, List.pairwise_singleton _ _, fun p hp q hq g hg hq' => ?_⟩⟩
    · rcases List.mem_append.1 hr with hr | hr
      · exact h2.1 r hr
      · rw [List.mem_singleton.1 hr]; exact h1
    · rw [List.mem_singleton.1 hq] at hq'
      exact h3 g hq' ⟨p, hp, hg⟩
theorem eraseIdx_split {β : Type} {L : List β} {i : Nat} {x : β} (hx : L[i]? = some x) : L = L.take i ++ x :: L.drop (i + 1) ∧ L.eraseIdx i = L.take i ++ L.drop (i + 1) := by
  have hi := lt_of_get hx
  constructor
  · rw [← (List.getElem?_eq_some_iff.1 hx).2, List.getElem_cons_drop, List.take_append_drop]
  · exact List.eraseIdx_eq_take_drop_succ L i
theorem Hp.rowsTake {i : Nat} {B : Option Addr} {d : Nat} {xs : List α} (H : Hp b S w rs) (s : Sel rs (rRows τ e L) rest) (hx : L[i]? = some (B, d, xs)) : Hp b S w (rOwn τ e B d xs :: rRows τ e (L.eraseIdx i) :: rest) := by
  obtain ⟨e1, e2⟩ := eraseIdx_split hx
  refine (H.sel s).split (fun g => ?_) (fun {S'} h => ?_)
  · constructor
    · rintro ⟨r, hr, hg⟩
      rw [e1] at hr
      rcases List.mem_append.1 hr with hr | hr
      · exact .inr ⟨r, by rw [e2]; simp [hr], hg⟩
      · rcases List.mem_cons.1 hr with rfl | hr
        · exact .inl hg
        · exact .inr ⟨r, by rw [e2]; simp [hr], hg⟩
    · rintro (h | ⟨r, hr, hg⟩)
      · exact ⟨(B, d, xs), List.mem_of_getElem? hx, h⟩
      · rw [e2] at hr
        refine ⟨r, ?_, hg⟩
        rw [e1]
        rcases List.mem_append.1 hr with hr | hr <;> simp [hr]
  · have h1 : ∀ r ∈ L.eraseIdx i, r ∈ L := fun r hr => List.mem_of_mem_eraseIdx hr
    have h2 := h.2
    rw [e1] at h2
    obtain ⟨h3, h4, h5⟩ := List.pairwise_append.1 h2
    obtain ⟨h6, h7⟩ := List.pairwise_cons.1 h4
    refine ⟨h.1 _ (List.mem_of_getElem? hx), ⟨fun r hr => h.1 r (h1 r hr), ?_⟩, ?_⟩
    · rw [e2]; exact List.pairwise_append.2 ⟨h3, h7, fun p hp q hq => h5 p hp q (by simp [hq])⟩
    · rintro g hg ⟨r, hr, hg'⟩
      rw [e2] at hr
      rcases List.mem_append.1 hr with hr | hr
      · exact h5 r hr (B, d, xs) (by simp) g hg' hg
      · exact h6 r hr g hg hg'
theorem Hp.inAt {B : Option Addr} {d : Nat} {xs : List α} (H : Hp b S w rs) (s : Sel rs (rIns τ L) rest) (hx : (B, d, xs) ∈ L) : Sl τ (Rd b S rs w) w B d xs := H.ok (rIns τ L) (s.perm.mem_iff.2 (by simp)) _ hx
/-- rows of the call's own are from now on to be read alone -/
theorem Hp.rowsFz (H : Hp b S w rs) (s : Sel rs (rRows τ e L) rest) : Hp b S w (rIns τ L :: rest) := by
  have H1 := H.sel s
  have hd := List.pairwise_cons.1 H1.dis
  have hs : ∀ g, Rd b S (rRows τ e L :: rest) w g → Rd b S (rIns τ L :: rest) w g := by
    rintro g (h | ⟨h3, h4, h5⟩)
    · exact .inl h
    · refine .inr ⟨h3, h4, fun q hq => ?_⟩
      rcases List.mem_cons.1 hq with rfl | hq
      · exact fun h => h
      · exact h5 q (by simp [hq])
  refine ⟨H.ext, fun q hq => ?_, fun q hq g hg => ?_, List.pairwise_cons.2 ⟨fun q hq g hg => hg.elim, hd.2⟩⟩
  · rcases List.mem_cons.1 hq with rfl | hq
    · intro r hr
      have h6 : Own τ e 0 (Rd b S (rRows τ e L :: rest) w) w r.1 r.2.1 r.2.2 := (H1.ok (rRows τ e L) (by simp)).1 r hr
      refine h6.slb (fun g hg => ?_) hs
      have h8 := H1.lo (rRows τ e L) (by simp) g ⟨r, hr, hg⟩
      refine .inr ⟨h8.1, h8.2, fun q hq => ?_⟩
      rcases List.mem_cons.1 hq with rfl | hq
      · exact fun h => h
      · exact hd.1 q hq g ⟨r, hr, hg⟩
    · exact q.sub hs (H1.ok q (by simp [hq]))
  · rcases List.mem_cons.1 hq with rfl | hq
    · exact hg.elim
    · exact H1.lo q (by simp [hq]) g hg
/-- the elements of a row, their addresses beside them -/
theorem Hp.recast {β γ : Type} {σ : Ty β} {ρ : Ty γ} {A : Option Addr} {c : Nat} {xs : List β} {ys : List γ} (H : Hp b S w rs) (s : Sel rs (rOwn σ e A c xs) rest) (hk : σ.k = ρ.k) (hl : ys.length = xs.length)
    (hR : ∀ (i : Nat) (x : β) (y : γ) (cs : List Value), xs[i]? = some x → ys[i]? = some y → σ.R (Rd b S rs w) w x cs → ρ.R (Rd b S rs w) w y cs) : Hp b S w (rOwn ρ e A c ys :: rest) := by
  have hsub : ∀ g, Rd b S rs w g → Rd b S (rOwn σ e A c xs :: rest) w g := Rd.perm s.perm
  refine (H.sel s).put (r' := rOwn ρ e A c ys) ⟨rfl, rfl, rfl, Nat.le_refl _, fun _ _ _ => rfl, Nat.le_refl _⟩ (fun g hg => .inl hg) ?_
  obtain ⟨css, h1, h2, h3⟩ := H.ow s
  refine Own.low (lo := b.heap.size) ⟨css, by rw [h1, hl], fun i y hy => ?_, ?_⟩ (Nat.zero_le _) hsub
  · obtain ⟨x, hx⟩ := get_some (xs := xs) (i := i) (by rw [← hl]; exact lt_of_get hy)
    obtain ⟨cs, h4, h5⟩ := h2 i x hx
    exact ⟨cs, h4, hR i x y cs hx hy h5⟩
  · rw [hk, ← hl] at h3
    exact h3
end
end Go.Proofs.YtjcklpooaaaglaaGreat
set_option linter.all false
namespace Go.Proofs.YtjcklpooaaaglaaGreat
open Go.RowKit

theorem Ext.grow_eq {w w' : World} (e : Ext w w') : ∃ (q : Nat) (os' : Array Obj), w' = Go.Sort.grow (w.drewN q) os' := by
  refine ⟨w'.drawn - w.drawn, w'.heap.extract w.heap.size w'.heap.size, ?_⟩
  obtain ⟨e1, e2, e3, e4, e5, e6⟩ := e
  obtain ⟨h, t, d, o, out⟩ := w
  obtain ⟨h', t', d', o', out'⟩ := w'
  simp only at e1 e2 e3 e4 e5 e6
  subst e1 e2 e3
  have hd : d + (d' - d) = d' := by omega
  have hh : h ++ h'.extract h.size h'.size = h' := by
    apply Array.ext_getElem?
    intro i
    by_cases hi : i < h.size
    · rw [Array.getElem?_append_left hi]; exact (e5 i hi).symm
    · rw [Array.getElem?_append_right (by omega), Array.getElem?_extract]
      by_cases hj : i < h'.size
      · rw [if_pos (by omega)]; congr 1; omega
      · rw [if_neg (by omega), Array.getElem?_eq_none (by omega)]
  simp only [Go.Sort.grow, World.drewN, hd, hh]

theorem flatK_list {α : Type} [Inhabited α] {enc : α → List Value} {k : Nat} (hk : ∀ x, (enc x).length = k) (ys : List α) : (Go.Sort.flatK enc k ys.toArray).toList = (ys.map enc).flatten := by
  apply List.ext_getElem?
  intro j
  have hl : ((ys.map enc).flatten).length = ys.length * k := by
    induction ys with
    | nil => simp
    | cons y ys ih => simp only [List.map_cons, List.flatten_cons, List.length_append, hk, ih, List.length_cons, Nat.add_mul, Nat.one_mul]; omega
  by_cases hj : j < ys.length * k
  · have hk0 : 0 < k := by
      rcases Nat.eq_zero_or_pos k with h | h
      · subst h; omega
      · exact h
    have hlt : j / k < ys.length := (Nat.div_lt_iff_lt_mul hk0).2 hj
    have hm : j % k < k := Nat.mod_lt _ hk0
    obtain ⟨y, hy⟩ := get_some (xs := ys) hlt
    have hyj : ys[j / k]! = y := by rw [List.getElem!_eq_getElem?_getD, hy]; rfl
    have hc : (enc y)[j % k]? = some (enc y)[j % k]! := by
      obtain ⟨u, hu⟩ := get_some (xs := enc y) (i := j % k) (by rw [hk]; exact hm)
      rw [List.getElem!_eq_getElem?_getD, hu]; rfl
    have h2 := flat_at (k := k) (ys.map enc) (by intro cs hcs; obtain ⟨x, _, rfl⟩ := List.mem_map.1 hcs; exact hk x) (j / k) (enc y) (by rw [List.getElem?_map, hy]; rfl) (j % k) _ hc
    rw [Nat.div_add_mod' j k] at h2
    rw [h2, Array.getElem?_toList]
    have hj' : j < (Go.Sort.flatK enc k ys.toArray).size := by rw [Go.Sort.size_flatK]; simpa using hj
    rw [Array.getElem?_eq_getElem hj', ← getElem!_pos _ j hj', Go.Sort.get_flatK enc k ys.toArray j (by simpa using hj)]
    simp [hyj]
  · rw [List.getElem?_eq_none (by rw [Array.length_toList, Go.Sort.size_flatK]; simpa using Nat.le_of_not_lt hj), List.getElem?_eq_none (by rw [hl]; omega)]

theorem holds_block {w : World} {g : Nat} {cur F : Array Value} {e : TypeId} (hb : w.heap[g]? = some (.cells cur e (0, 0))) (ht : cur.toList.take F.size = F.toList) : Go.Sort.Holds id w g 0 F := by
  intro j hj
  refine ⟨?_, by simp [World.frozen?, hb]⟩
  have h1 : (cur.toList.take F.size)[j]? = F.toList[j]? := by rw [ht]
  rw [List.getElem?_take_of_lt hj] at h1
  simp only [World.cell?, hb, Nat.zero_add]
  simp only [Option.isSome_none, Bool.false_eq_true, if_false]
  rw [← Array.getElem?_toList, h1, Array.getElem?_toList, getElem!_pos F j hj, Array.getElem?_eq_getElem hj]; rfl
theorem heap_sorted {w : World} {g n : Nat} {os : Array Obj} {cur F : Array Value} {e : TypeId} {fr : Nat × Nat} (hb : w.heap[g]? = some (.cells cur e fr)) :
    (Go.Sort.grow (Go.Sort.putRow id (Go.Sort.ahead w n) g 0 F) os).heap[g]? = some (.cells (Go.Sort.putCells id 0 F cur) e fr) := by
  have hg : g < w.heap.size := (Array.getElem?_eq_some_iff.1 hb).1
  rw [Go.Sort.heap_grow_old _ _ (by simpa using hg)]
  simp [Go.Sort.putRow, Go.Sort.mapBlock, Go.Sort.ahead, Array.getElem?_modify, hb, Go.Sort.onCells]
theorem wr_sorted {α : Type} [Inhabited α] {enc : α → Value} {b w : World} {W : Nat → Prop} {g n : Nat} {os : Array Obj} {F : Array α} (hW : W g) : Wr b w (Go.Sort.grow (Go.Sort.putRow enc (Go.Sort.ahead w n) g 0 F) os) W := by
  refine ⟨rfl, rfl, rfl, by simp, fun k hk hne => ?_, ?_⟩
  · rw [Go.Sort.heap_grow_old _ _ (by simpa using hk)]
    have : g ≠ k := fun e => hne (e ▸ hW)
    simp [Go.Sort.putRow, Go.Sort.mapBlock, Go.Sort.ahead, Array.getElem?_modify, this]
  · show w.drawn ≤ w.drawn + n; omega
theorem take_sorted (cur F : Array Value) (h : F.size ≤ cur.size) : (Go.Sort.putCells id 0 F cur).toList.take F.size = F.toList := by
  apply List.ext_getElem?
  intro j
  by_cases hj : j < F.size
  · rw [List.getElem?_take_of_lt hj, Array.getElem?_toList, Array.getElem?_toList]
    simp [Go.Sort.putCells, hj, show j < cur.size by omega]
  · rw [List.getElem?_take_eq_none (by omega), List.getElem?_eq_none (by simp; omega)]

section
variable {P : Program} {b w : World} {S : Nat → Prop} {F : List Res}
/-- the row of a flat own slice that is not nil -/
theorem Own.flat_open {α : Type} {k : Nat} {enc : α → List Value} {pos : 0 < k} {hl : ∀ x, (enc x).length = k} {h1 : ∀ x, ∀ u ∈ enc x, u.oneCell' = true} {e : TypeId} {lo c : Nat} {A : Option Addr} {xs : List α} (h : Own (Ty.flat k enc pos hl h1) e lo S w A c xs) (hne : xs ≠ []) :
    ∃ g cur, A = some ⟨g, 0, none⟩ ∧ lo ≤ g ∧ w.heap[g]? = some (.cells cur e (0, 0)) ∧ xs.length ≤ c ∧ c ≤ maxLen ∧ cur.size = c * k ∧ cur.toList.take (xs.length * k) = (xs.map enc).flatten := by
  obtain ⟨css, c1, c2, c3⟩ := h
  have hcss : css = xs.map enc := by
    apply List.ext_getElem?
    intro i
    rw [List.getElem?_map]
    cases hi : xs[i]? with
    | none => have := List.getElem?_eq_none_iff.1 hi; rw [List.getElem?_eq_none (by omega)]; rfl
    | some x =>
      obtain ⟨cs, h5, h6⟩ := c2 i x hi
      rw [h5, show cs = enc x from h6]; rfl
  rcases c3.2 with ⟨hv, hn⟩ | ⟨g, cap, cur, hv, hg, hh, hnc, hcm, hcs, ht⟩
  · exact absurd (List.eq_nil_of_length_eq_zero hn) hne
  · injection hv with hA hn' hc'
    subst hA hc'
    exact ⟨g, cur, rfl, hg, hh, hnc, hcm, hcs, by rw [← hcss]; exact ht⟩
theorem Own.flat_shut {α : Type} {k : Nat} {enc : α → List Value} {pos : 0 < k} {hl : ∀ x, (enc x).length = k} {h1 : ∀ x, ∀ u ∈ enc x, u.oneCell' = true} {e : TypeId} {lo c g : Nat} {xs : List α} {cur : Array Value} (hg : lo ≤ g) (hh : w.heap[g]? = some (.cells cur e (0, 0))) (hnc : xs.length ≤ c) (hcm : c ≤ maxLen) (hcs : cur.size = c * k) (ht : cur.toList.take (xs.length * k) = (xs.map enc).flatten) :
    Own (Ty.flat k enc pos hl h1) e lo S w (some ⟨g, 0, none⟩) c xs := by
  have hlen : ∀ ys : List α, ((ys.map enc).flatten).length = ys.length * k := by
    intro ys
    induction ys with
    | nil => simp
    | cons y ys ih => simp only [List.map_cons, List.flatten_cons, List.length_append, hl, ih, List.length_cons, Nat.add_mul, Nat.one_mul]; omega
  exact ⟨xs.map enc, by simp, fun i x hx => ⟨enc x, by rw [List.getElem?_map, hx]; rfl, rfl⟩, hlen xs, .inr ⟨g, c, cur, rfl, hg, hh, hnc, hcm, hcs, ht⟩⟩
/-- a world of the sort's: the row holds these; all else is as it was -/
theorem Hp.sorted {α : Type} [Inhabited α] {k : Nat} {enc : α → List Value} {pos : 0 < k} {hl : ∀ x, (enc x).length = k} {h1 : ∀ x, ∀ u ∈ enc x, u.oneCell' = true} {e c g n : Nat} {xs ys : List α} {os : Array Obj} {cur : Array Value} (H : Hp b S w (rOwn (Ty.flat k enc pos hl h1) e (some ⟨g, 0, none⟩) c xs :: F))
    (hh : w.heap[g]? = some (.cells cur e (0, 0))) (hnc : xs.length ≤ c) (hcm : c ≤ maxLen) (hcs : cur.size = c * k) (hy : ys.length = xs.length) :
    Hp b S (sortWorldK enc k w g 0 n ys.toArray os) (rOwn (Ty.flat k enc pos hl h1) e (some ⟨g, 0, none⟩) c ys :: F) := by
  have hsz : (Go.Sort.flatK enc k ys.toArray).size = ys.length * k := by rw [Go.Sort.size_flatK]; simp
  have hle : ys.length * k ≤ c * k := Nat.mul_le_mul_right k (by omega)
  refine H.put (r' := rOwn (Ty.flat k enc pos hl h1) e (some ⟨g, 0, none⟩) c ys) (wr_sorted (show (rOwn (Ty.flat k enc pos hl h1) e (some ⟨g, 0, none⟩) c xs).W g from rfl)) (fun q hq => .inl hq) ?_
  refine Own.flat_shut (Nat.zero_le _) (heap_sorted hh) (by omega) hcm (by simp [Go.Sort.putCells, hcs]) ?_
  have h2 := take_sorted cur (Go.Sort.flatK enc k ys.toArray) (by rw [hsz, hcs]; exact hle)
  rw [hsz, flatK_list hl] at h2
  exact h2
open Go.Sort in
theorem sortf {ρ : Go.Shelf.Ren} (L : SlLaysF0.n6 P ρ) {α : Type} [Inhabited α] {k : Nat} {enc : α → List Value} {pos : 0 < k} {hl : ∀ x, (enc x).length = k} {h1 : ∀ x, ∀ u ∈ enc x, u.oneCell' = true} (aE : ∀ w, (isAgg (ρ.t 24)).run P w = .ok true w) (zE : ∀ w, (Go.sizeOf (ρ.t 24)).run P w = .ok k w)
    {cf : α → α → Int} (hO : SWO (ltOf cf)) {g : Nat} {cb : Array Value} {e c : Nat} {A : Option Addr} {xs : List α} (H : Hp b S w (rOwn (Ty.flat k enc pos hl h1) e A c xs :: F)) (eg : ∀ args w, (callFunc g args).run P w = .ok (.enter g args) w) (hn : xs.length ≤ 1000000) (hne : xs ≠ [])
    (hcmp : ∀ (w' : World) (ys : List α), ys.length = xs.length → Hp b S w' (rOwn (Ty.flat k enc pos hl h1) e A c ys :: F) → ∀ x y : α, Rets P g (#[.agg (enc x).toArray, .agg (enc y).toArray] ++ cb) w' fun v w'' => v = .int .i64 (cf x y) ∧ Ext w' w'') :
    Rets P (ρ.f 6) #[.slice A xs.length c, .func (.func g) #[] cb] w fun v w' => v = .tuple #[] ∧ ∃ ys : List α, ys.Perm xs ∧ (ys.Pairwise fun x y => ¬ cf y x < 0) ∧ Hp b S w' (rOwn (Ty.flat k enc pos hl h1) e A c ys :: F) := by
  obtain ⟨q, cur, rfl, hq, hh, hnc, hcm, hcs, ht⟩ := Own.flat_open (H.ow s0) hne
  have hqs : q < w.heap.size := (Array.getElem?_eq_some_iff.1 hh).1
  have hH : Go.Sort.HoldsK enc k w q 0 xs.toArray := by
    refine holds_block hh ?_
    rw [flatK_list hl, Go.Sort.size_flatK]; simpa using ht
  have hc : CmpLays P g cb enc k cf q 0 xs.toArray.size w := by
    intro m os dk hdk x y
    obtain ⟨ys, rfl⟩ : ∃ ys : List α, dk = ys.toArray := ⟨dk.toList, by simp⟩
    have hy : ys.length = xs.length := by simpa using hdk
    have h3 := hcmp _ ys hy (H.sorted (n := m) (os := os) hh hnc hcm hcs hy) x y
    refine Calls.mono h3 ?_
    rintro e' w' ⟨v, rfl, rfl, ex⟩
    obtain ⟨q', os', hw⟩ := ex.grow_eq
    exact ⟨rfl, q', os', hw⟩
  have h4 := AnyQ.slices_SortFunc L k aE zE enc hl h1 cf hO g cb q 0 c xs.toArray w eg hc hH hqs (by simp; omega)
  simp only [List.size_toArray] at h4
  refine Calls.mono h4 ?_
  rintro e' w' ⟨rfl, d', n, os, hp, hs, rfl⟩
  obtain ⟨ys, rfl⟩ : ∃ ys : List α, d' = ys.toArray := ⟨d'.toList, by simp⟩
  have hsz : ys.length = xs.length := by simpa using hp.1
  refine ⟨_, rfl, rfl, ys, ?_, ?_, H.sorted hh hnc hcm hcs hsz⟩
  · have := hp.2.2
    simp only [List.size_toArray, List.extract_toArray, List.extract_eq_drop_take, List.drop_zero, Nat.sub_zero] at this
    rwa [List.take_of_length_le (by omega), List.take_of_length_le (Nat.le_refl _)] at this
  · rw [List.pairwise_iff_getElem]
    intro i j hi hj hij hlt
    have := hs i j (Nat.zero_le _) hij (by omega)
    simp only [ltOf] at this
    rw [getElem!_pos ys.toArray j (by simpa using hj), getElem!_pos ys.toArray i (by simpa using hi)] at this
    simp only [List.getElem_toArray] at this
    simp at this
    omega
open Go.Sort in
theorem sortf0 {ρ : Go.Shelf.Ren} (L : SlLaysF0.n6 P ρ) {α : Type} {τ : Ty α} {fv : Value} {e c : Nat} {A : Option Addr} {xs : List α} (H : Hp b S w (rOwn τ e A c xs :: F)) (hne : xs = []) :
    Rets P (ρ.f 6) #[.slice A xs.length c, fv] w fun v w' => v = .tuple #[] ∧ Hp b S w' (rOwn τ e A c xs :: F) := by
  subst hne
  refine Calls.mono (AnyF.slices_SortFunc_none L A c fv w) ?_
  rintro e' w' ⟨rfl, rfl⟩
  exact ⟨_, rfl, rfl, H⟩
theorem ints_flat : ∀ zs : List Int, (zs.map fun x : Int => [Value.int .i64 x]).flatten = zs.map (Value.int .i64)
  | [] => rfl
  | z :: zs => by simp [ints_flat zs]
open Go.Sort in
theorem sorti {ρ : Go.Shelf.Ren} (L : Lays.n189 P ρ) {e c : Nat} {A : Option Addr} {xs : List Int} {hl : ∀ x : Int, ([Value.int .i64 x] : List Value).length = 1} {pos : 0 < 1} {h1 : ∀ x : Int, ∀ u ∈ ([Value.int .i64 x] : List Value), u.oneCell' = true} (H : Hp b S w (rOwn (Ty.flat 1 (fun x : Int => [.int .i64 x]) pos hl h1) e A c xs :: F)) (hn : xs.length ≤ 1000000) :
    Rets P (ρ.f 189) #[.slice A xs.length c] w fun v w' => v = .tuple #[] ∧ Hp b S w' (rOwn (Ty.flat 1 (fun x : Int => [.int .i64 x]) pos hl h1) e A c (xs.mergeSort fun x y => decide (x ≤ y)) :: F) := by
  by_cases hne : xs = []
  · subst hne
    refine Calls.mono (Any.slices_Sort_int_none L A c w) ?_
    rintro e' w' ⟨rfl, rfl⟩
    exact ⟨_, rfl, rfl, by simpa using H⟩
  · obtain ⟨q, cur, rfl, hq, hh, hnc, hcm, hcs, ht⟩ := Own.flat_open (H.ow s0) hne
    have hqs : q < w.heap.size := (Array.getElem?_eq_some_iff.1 hh).1
    have hH : Holds (Value.int .i64) w q 0 xs.toArray := holds_of_blockI hh (by rw [← ints_flat, ← ht, Nat.mul_one])
    refine Calls.mono (Any.slices_Sort_int L q 0 c xs w hH hqs (by omega)) ?_
    rintro e' w' ⟨rfl, n, os, rfl⟩
    have hsz : (xs.mergeSort fun x y => decide (x ≤ y)).length = xs.length := List.length_mergeSort _
    refine ⟨_, rfl, rfl, H.put (r' := rOwn (Ty.flat 1 (fun x : Int => [.int .i64 x]) pos hl h1) e (some ⟨q, 0, none⟩) c (xs.mergeSort fun x y => decide (x ≤ y))) (wr_sorted (show (rOwn (Ty.flat 1 (fun x : Int => [.int .i64 x]) pos hl h1) e (some ⟨q, 0, none⟩) c xs).W q from rfl)) (fun q hq => .inl hq) ?_⟩
    refine Own.flat_shut (Nat.zero_le _) (heap_sortedI _ hh) (by omega) hcm (by simp [putCells, hcs]) ?_
    rw [Nat.mul_one, ints_flat]
    exact take_putCellsI cur _ (by rw [hsz, hcs]; omega)
open Go.Sort in
/-- slices.SortFunc where elements that are told as equal are the same: the sorted list is known -/
theorem sortU {ρ : Go.Shelf.Ren} (L : SlLaysF0.n6 P ρ) {α : Type} [Inhabited α] {k : Nat} {enc : α → List Value} {pos : 0 < k} {hl : ∀ x, (enc x).length = k} {h1 : ∀ x, ∀ u ∈ enc x, u.oneCell' = true} (aE : ∀ w, (isAgg (ρ.t 24)).run P w = .ok true w) (zE : ∀ w, (Go.sizeOf (ρ.t 24)).run P w = .ok k w)
    {cf : α → α → Int} (hO : SWO (ltOf cf)) {g : Nat} {cb : List Value} {e c : Nat} {A : Option Addr} {xs : List α} (H : Hp b S w (rOwn (Ty.flat k enc pos hl h1) e A c xs :: F)) (eg : ∀ args w, (callFunc g args).run P w = .ok (.enter g args) w) (hn : xs.length ≤ 1000000) (hu : ∀ x ∈ xs, ∀ y ∈ xs, ¬ cf x y < 0 → ¬ cf y x < 0 → x = y)
    (hcmp : ∀ (w' : World) (ys : List α), ys.length = xs.length → Hp b S w' (rOwn (Ty.flat k enc pos hl h1) e A c ys :: F) → ∀ x y : α, Rets P g (([.agg (enc x).toArray, .agg (enc y).toArray] : List Value) ++ cb).toArray w' fun v w'' => v = .int .i64 (cf x y) ∧ Ext w' w'') :
    Rets P (ρ.f 6) #[.slice A xs.length c, .func (.func g) #[] cb.toArray] w fun v w' => v = .tuple #[] ∧ Hp b S w' (rOwn (Ty.flat k enc pos hl h1) e A c (xs.mergeSort fun x y => !decide (cf y x < 0)) :: F) := by
  by_cases hne : xs = []
  · have h := sortf0 L (fv := .func (.func g) #[] cb.toArray) H hne
    refine h.mono ?_
    rintro v w' ⟨rfl, K⟩
    subst hne
    exact ⟨rfl, by simpa using K⟩
  · have h := sortf L aE zE hO H eg hn hne (cb := cb.toArray) (fun w' ys hy K x y => by have := hcmp w' ys hy K x y; simpa using this)
    refine h.mono ?_
    rintro v w' ⟨rfl, ys, hp, hs, K⟩
    have hms : (xs.mergeSort fun x y => !decide (cf y x < 0)).Pairwise fun x y => ¬ cf y x < 0 := by
      have h := List.pairwise_mergeSort (le := fun x y => !decide (cf y x < 0)) (fun a b c h1 h2 => by
        have h3 := hO.ntrans c b a
        simp only [ltOf, Bool.not_eq_true', decide_eq_false_iff_not] at h1 h2 h3 ⊢
        exact h3 h2 h1) (fun a b => by
        by_cases h1 : cf b a < 0
        · by_cases h2 : cf a b < 0
          · have h3 := hO.trans a b a (by simp [ltOf, h2]) (by simp [ltOf, h1])
            rw [hO.irrefl] at h3; cases h3
          · simp [h2]
        · simp [h1]) xs
      exact h.imp (fun {a b} h => by simpa using h)
    have he : ys = xs.mergeSort fun x y => !decide (cf y x < 0) :=
      List.Perm.eq_of_pairwise (le := fun x y => ¬ cf y x < 0) (fun a b ha hb h1 h2 => hu a (hp.mem_iff.1 ha) b (List.mem_mergeSort.1 hb) h2 h1) hs hms (hp.trans (List.mergeSort_perm xs _).symm)
    rw [he] at K
    exact ⟨rfl, K⟩
end
end Go.Proofs.YtjcklpooaaaglaaGreat
set_option linter.all false
namespace Go.Proofs.YtjcklpooaaaglaaGreat
open Go.RowKit

instance {g : Nat} {o : Obj} : FlatR (rObj g o) := ⟨fun h => h⟩
section
variable {P : Program} {n : Cx} {l : List (Nat × Value)} {b w : World} {S : Nat → Prop} {rs rest : List Res} {Q : Exit → Act → World → Prop} {K : Act → World → Prop} {ops : Array Oper} {os : List Oper} {ty : TypeId} {pos : String} {aft : Array Edge} {d : Nat}
theorem Ev.neg {t : TypeId} {x : Operand} {a : Int} (hx : evl l x = some (.int .i64 a)) (h : I64 (-a)) : Ev P n l w (.unOp .neg t x) (.int .i64 (-a)) := fun o a' w' ho ha _ => by
  unfold execOp; rw [ho]
  have h2 : (Op.unary .neg (.int .i64 a)).run P w' = .ok (.int .i64 (-a)) w' := by
    have h3 : IntKind.i64.wrap (0 - a) = -a := by rw [Int.zero_sub]; exact h.wrap
    have h4 : (Op.unary .neg (.int .i64 a)).run P w' = .ok (.int .i64 (IntKind.i64.wrap (0 - a))) w' := rfl
    rw [h4, h3]
  simp [ha.eval hx, h2]
/-- 'make(map[K]V)' -/
theorem mkm {t : TypeId} (H : Hp b S w rs) (hd : Nat.blt d n.size = true) (k : ∀ g w', Hp b S w' (rObj g (.map #[] 0) :: rs) → WL P n ops Q K os ((d, .map (some g)) :: l) w') : WL P n ops Q K (⟨some d, .makeMap t none, ty, pos, aft, none⟩ :: os) l w :=
  WL.val (v := .map (some w.heap.size)) (fun a _ => wanted_none a) rfl hd (R := fun w2 => w2 = w.alloc (.map #[] 0)) (fun a ha => ⟨_, rfl, rfl⟩) fun w2 e => by
    subst e; exact k _ _ (H.newObj (.map #[] 0))
theorem run_look {t kt et : TypeId} {z : Int} {g clk : Nat} {es : Array MapEntry} {v : Value} {i : Nat} (hm : P.underlying t = some (.map kt et)) (hk : P.underlying kt = some (.int .i64)) (hb : w.heap[g]? = some (.map es clk)) (hf : Instr.findNow (.int .i64) (.int .i64 z) es.toList 0 = some (some (i, v))) :
    (Instr.lookup t (.map (some g)) (.int .i64 z) false).run P w = .ok v w := by
  have h1 : ∀ e, (Instr.checkKey e 10000 kt (.int .i64 z)).run P w = .ok () w := fun e => MapKept.run_checkKey (n := 9999) (k := .int .i64 z) hk (by simp [MapKept.IsKey]) e
  have h2 : (Instr.findKey kt (.int .i64 z) es.toList).run P w = .ok (some (i, v)) w := MapKept.run_findKey hk hf
  unfold Instr.lookup
  simp only [Sem.run_bind, run_underlying hm, Result.andThen_ok, MapKept.run_getObj_map hb, h1, h2, Sem.run_pure]
  rfl
theorem Ev.look {t kt et : TypeId} {m ky : Operand} {z : Int} {g clk i : Nat} {es : Array MapEntry} {v : Value} (H : Hp b S w rs) (s : Sel rs (rObj g (.map es clk)) rest) (hx : evl l m = some (.map (some g))) (hkey : evl l ky = some (.int .i64 z))
    (hm : P.underlying t = some (.map kt et)) (hk : P.underlying kt = some (.int .i64)) (hf : Instr.findNow (.int .i64) (.int .i64 z) es.toList 0 = some (some (i, v))) : Ev P n l w (.lookup t m ky false) v := fun o a w' ho ha ex => by
  have hb : w'.heap[g]? = some (.map es clk) := (ex.block g (Array.getElem?_eq_some_iff.1 (H.obj s)).1).trans (H.obj s)
  unfold execOp; rw [ho]; simp [ha.eval hx, ha.eval hkey, run_look hm hk hb hf]
end
end Go.Proofs.YtjcklpooaaaglaaGreat
set_option linter.all false
namespace Go.Proofs.YtjcklpooaaaglaaGreat
open Go.RowKit

def setE (s : List Int) : Array MapEntry := (s.zipIdx.map fun p => ⟨.int .i64 p.1, .bool true, p.2⟩).toArray
def addS (s : List Int) (z : Int) : List Int := if s.contains z then s else s ++ [z]
theorem setE_size (s : List Int) : (setE s).size = s.length := by simp [setE]
theorem setE_push (s : List Int) (z : Int) : (setE s).push ⟨.int .i64 z, .bool true, s.length⟩ = setE (s ++ [z]) := by
  simp [setE, List.zipIdx_append]
theorem setE_get {s : List Int} {j : Nat} {e : MapEntry} (h : (setE s).toList[j]? = some e) : ∃ z, s[j]? = some z ∧ e = ⟨.int .i64 z, .bool true, j⟩ := by
  simp only [setE, List.getElem?_map, List.getElem?_zipIdx, Nat.zero_add] at h
  cases hs : s[j]? with
  | none => simp [hs] at h
  | some z => simp [hs] at h; exact ⟨z, rfl, h.symm⟩
theorem setE_modify {s : List Int} {j : Nat} {z : Int} (h : s[j]? = some z) : (setE s).modify j (fun e => { e with key := .int .i64 z, val := .bool true }) = setE s := by
  apply Array.ext_getElem?
  intro i
  rw [Array.getElem?_modify]
  by_cases hij : j = i
  · subst hij
    rw [if_pos rfl]
    have h1 : (setE s)[j]? = some ⟨.int .i64 z, .bool true, j⟩ := by
      rw [← Array.getElem?_toList]; simp [setE, h]
    rw [h1]; rfl
  · rw [if_neg hij]
theorem setE_keys (s : List Int) : ∀ x ∈ (setE s).toList, MapKept.IsKey (.int .i64) x.key := by
  intro x hx
  obtain ⟨j, hj⟩ := List.getElem?_of_mem hx
  obtain ⟨z, _, rfl⟩ := setE_get hj
  simp [MapKept.IsKey]
section
variable {P : Program} {n : Cx} {l : List (Nat × Value)} {b w : World} {S : Nat → Prop} {rs rest : List Res} {Q : Exit → Act → World → Prop} {K : Act → World → Prop} {ops : Array Oper} {os : List Oper} {ty : TypeId} {pos : String} {aft : Array Edge} {d : Nat}
theorem unwanted {op : Op} {dd : Option Nat} {j : Nat} {want : Bool} {v : Value} (hg : guardOf ops l j = some v) (hv : unlike want v = true) (a : Act) (ha : Has n l a) :
    Region.wanted ⟨dd, op, ty, pos, aft, some (j, want)⟩ (yielded ops a.tmps) = false := by
  show (yielded ops a.tmps j == some want) = false
  rw [yielded_of ha hg]
  cases v <;> simp [unlike] at hv ⊢
  cases want <;> simp_all
/-- one step's check: who comes up next is free, may come up, and what is listed behind it -/
def tkc (ops : Array Oper) (listed listed' : Array Bool) (i : Nat) : Bool :=
  Region.free .any ops listed i && ((!listed.getD i true && ((ops[i]?).map fun o => o.after.all fun e => !Region.binds .any e || listed.getD e.on false).getD false) && (listed.setIfInBounds i true).toList == listed'.toList)
theorem tkc_ok {listed listed' : Array Bool} {i : Nat} (h : tkc ops listed listed' i = true) : Region.free .any ops listed i = true ∧ (Region.ready .any ops listed).contains i = true ∧ listed.setIfInBounds i true = listed' := by
  simp only [tkc, Bool.and_eq_true, beq_iff_eq] at h
  refine ⟨h.1, ?_, Array.toList_inj.1 h.2.2⟩
  rw [List.contains_iff_mem]
  unfold Region.ready
  refine List.mem_filter.2 ⟨?_, by simpa only [Bool.and_eq_true] using h.2.1⟩
  rw [List.mem_range]
  have h1 := h.2.1.2
  cases ho : ops[i]? with
  | none => rw [ho] at h1; simp at h1
  | some o => exact (Array.getElem?_eq_some_iff.1 ho).1
theorem WH.ns {Z : World → Prop} {fuel : Nat} {listed : Array Bool} (hs : Region.noSelect ops = true) (k : Region.noSelect ops = true → WH P n ops K Z fuel listed l w) : WH P n ops K Z fuel listed l w := k hs
/-- in a region that draws: an operation that only reads is taken first -/
theorem WH.tn {rk : List Res} {fuel : Nat} {listed : Array Bool} (i : Nat) (listed' : Array Bool) {op : Op} {d : Nat} {v : Value} (hs : Region.noSelect ops = true) (hi : ops[i]? = some ⟨some d, op, ty, pos, aft, none⟩) (hf : tkc ops listed listed' i = true)
    (he : ∀ w', Hp b S w' rk → Ev P n l w' op v) (hd : Nat.blt d n.size = true) (hw : Hp b S w rk) (k : WH P n ops K (fun w' => Hp b S w' rk) fuel listed' ((d, v) :: l) w) :
    WH P n ops K (fun w' => Hp b S w' rk) (fuel + 1) listed l w := WH.tk i hi hs (tkc_ok hf).1 (tkc_ok hf).2.1 he hd hw ((tkc_ok hf).2.2 ▸ k)
theorem WH.tng {rk : List Res} {fuel : Nat} {listed : Array Bool} (i : Nat) (listed' : Array Bool) {op : Op} {d j : Nat} {want : Bool} {v : Value} (hs : Region.noSelect ops = true) (hi : ops[i]? = some ⟨some d, op, ty, pos, aft, some (j, want)⟩) (hg : guardOf ops l j = some (.bool want)) (hf : tkc ops listed listed' i = true)
    (he : ∀ w', Hp b S w' rk → Ev P n l w' op v) (hd : Nat.blt d n.size = true) (hw : Hp b S w rk) (k : WH P n ops K (fun w' => Hp b S w' rk) fuel listed' ((d, v) :: l) w) :
    WH P n ops K (fun w' => Hp b S w' rk) (fuel + 1) listed l w := WH.tkg i hi hg hs (tkc_ok hf).1 (tkc_ok hf).2.1 he hd hw ((tkc_ok hf).2.2 ▸ k)
/-- in a region that draws: an operation that is passed over is taken first -/
theorem WH.tnp {rk : List Res} {fuel : Nat} {listed : Array Bool} (i : Nat) (listed' : Array Bool) {op : Op} {d j : Nat} {want : Bool} {u : Value} (hs : Region.noSelect ops = true) (hi : ops[i]? = some ⟨some d, op, ty, pos, aft, some (j, want)⟩) (hg : guardOf ops l j = some u) (hv : unlike want u = true) (hf : tkc ops listed listed' i = true)
    (hd : Nat.blt d n.size = true) (hw : Hp b S w rk) (k : WH P n ops K (fun w' => Hp b S w' rk) fuel listed' ((d, undef) :: l) w) :
    WH P n ops K (fun w' => Hp b S w' rk) (fuel + 1) listed l w := fun a ha =>
  wpAnyH_take hi hs (tkc_ok hf).1 (tkc_ok hf).2.1 (fun _ _ _ h => h) (.inr ⟨unwanted hg hv a ha, rfl⟩) hw ((tkc_ok hf).2.2 ▸ k _ (ha.put hd undef))
theorem WH.re2 {Z : World → Prop} {fuel : Nat} {listed : Array Bool} {t : Nat} {u v : Value} (hl : look l t = some u) (e : u = v) (k : WH P n ops K Z fuel listed ((t, v) :: l) w) : WH P n ops K Z fuel listed l w := fun a ha => k a (ha.set hl e)
/-- who is listed, as a number -/
def LM (n m : Nat) : Array Bool := ((List.range n).map fun i => m.testBit i).toArray
/-- a state that is come to in more than one way -/
theorem WH.join {Z : World → Prop} {fuel : Nat} {listed : Array Bool} (J : List (Nat × Value) → World → Prop) (fuel' : Nat) (listed' : Array Bool) (h : ∀ l w, J l w → WH P n ops K Z fuel' listed' l w) (k : (∀ l w, J l w → WH P n ops K Z fuel' listed' l w) → WH P n ops K Z fuel listed l w) : WH P n ops K Z fuel listed l w := k h
theorem WH.kj {Z : World → Prop} {fuel i : Nat} {listed listed' : Array Bool} {J : List (Nat × Value) → World → Prop} {l' : List (Nat × Value)} (hS : ∀ l w, J l w → WH P n ops K Z fuel listed' l w) (he : ((listed.setIfInBounds i true).toList == listed'.toList) = true) (hk : Z w) (hJ : J l' w) (hs : Sb l l') :
    WL P n.asPlain ops (Only K) (HK P ops K Z fuel (listed.setIfInBounds i true)) [] l w := by
  have e : listed.setIfInBounds i true = listed' := Array.toList_inj.1 (by simpa using he)
  exact WH.next hk (e ▸ fun a ha => hS l' w hJ a (ha.sb hs))
theorem WH.one {Z : World → Prop} {fuel : Nat} {listed : Array Bool} (i : Nat) {o : Oper} (hr : Region.ready .any ops listed = [i]) (hi : ops[i]? = some o) (h : WL P n.asPlain ops (Only K) (HK P ops K Z fuel (listed.setIfInBounds i true)) [o] l w) : WH P n ops K Z (fuel + 1) listed l w :=
  WH.all hr (by simp) fun j hj => by obtain rfl := List.mem_singleton.1 hj; exact ⟨o, hi, h⟩
theorem WH.two {Z : World → Prop} {fuel : Nat} {listed : Array Bool} (i j : Nat) {o o' : Oper} (hr : Region.ready .any ops listed = [i, j]) (hi : ops[i]? = some o) (hj : ops[j]? = some o') (h : WL P n.asPlain ops (Only K) (HK P ops K Z fuel (listed.setIfInBounds i true)) [o] l w) (h' : WL P n.asPlain ops (Only K) (HK P ops K Z fuel (listed.setIfInBounds j true)) [o'] l w) : WH P n ops K Z (fuel + 1) listed l w :=
  WH.all hr (by simp) fun k hk => by
    rcases List.mem_cons.1 hk with rfl | hk
    · exact ⟨o, hi, h⟩
    · obtain rfl := List.mem_singleton.1 hk; exact ⟨o', hj, h'⟩
theorem Hp.f4 {S' : Nat → Prop} {w' : World} {F : List Res} {r1 r2 r3 r4 : Res} [FlatR r1] [FlatR r2] [FlatR r3] [FlatR r4] (H : Hp b S w F) (h : Hp w S' w' [r1, r2, r3, r4]) : Hp b S w' (r1 :: r2 :: r3 :: r4 :: F) := H.lift h.re
theorem Hp.z (H : Hp b S w rs) : Hp b S w [] := ⟨H.ext, fun r hr => by simp at hr, fun r hr => by simp at hr, List.Pairwise.nil⟩
theorem Hp.f5 {S' : Nat → Prop} {w' : World} {F : List Res} {r1 r2 r3 r4 r5 : Res} [FlatR r1] [FlatR r2] [FlatR r3] [FlatR r4] [FlatR r5] (H : Hp b S w F) (h : Hp w S' w' [r1, r2, r3, r4, r5]) : Hp b S w' (r1 :: r2 :: r3 :: r4 :: r5 :: F) := H.lift h.re
def ddl (xs : List (Array Bool)) : List (Array Bool) := xs.foldl (fun acc x => if acc.contains x then acc else x :: acc) []
theorem ddl_mem (xs : List (Array Bool)) (x : Array Bool) (h : x ∈ xs) : x ∈ ddl xs := by
  have key : ∀ (xs acc : List (Array Bool)), x ∈ acc ∨ x ∈ xs → x ∈ xs.foldl (fun acc x => if acc.contains x then acc else x :: acc) acc := by
    intro xs
    induction xs with
    | nil => intro acc h; simpa using h
    | cons y xs ih =>
      intro acc h
      rw [List.foldl_cons]
      refine ih _ ?_
      rcases h with h | h
      · left; split <;> simp [h]
      · rcases List.mem_cons.1 h with rfl | h
        · left; split
          · rename_i hc; simpa using hc
          · simp
        · exact .inr h
  exact key xs [] (.inr h)
/-- the orders of a block, layer by layer -/
def layOk (ops : Array Oper) (ids : List Nat) (rest : Nat) (full : Array Bool) : Nat → List (Array Bool) → Bool
  | 0, ls => ls.all fun l => l == full && rest == 0
  | f + 1, ls => if ls.all (fun l => l == full) then f + 1 == rest else ls.all (fun l => !(l == full) && !(Region.ready .any ops l).isEmpty && (Region.ready .any ops l).all fun i => ids.contains i) && layOk ops ids rest full f (ddl (ls.flatMap fun l => (Region.ready .any ops l).map fun i => l.setIfInBounds i true))
theorem layOk_all {ops : Array Oper} {ids : List Nat} {rest : Nat} {full : Array Bool} : ∀ {fuel : Nat} {ls : List (Array Bool)}, layOk ops ids rest full fuel ls = true → ∀ l ∈ ls, blockOk ops ids rest full fuel l = true
  | 0, ls, h, l, hl => by
    simp only [layOk, List.all_eq_true] at h
    exact h l hl
  | f + 1, ls, h, l, hl => by
    unfold layOk at h
    unfold blockOk
    split at h
    · rename_i ha
      rw [if_pos (List.all_eq_true.1 ha l hl)]; exact h
    · simp only [Bool.and_eq_true] at h
      have h1 := List.all_eq_true.1 h.1 l hl
      simp only [Bool.and_eq_true, Bool.not_eq_true'] at h1
      rw [if_neg (by rw [h1.1.1]; decide)]
      rw [Bool.and_eq_true]
      refine ⟨by rw [h1.1.2]; rfl, ?_⟩
      rw [List.all_eq_true]
      intro i hi
      rw [Bool.and_eq_true]
      refine ⟨List.all_eq_true.1 h1.2 i hi, layOk_all h.2 _ (ddl_mem _ _ ?_)⟩
      exact List.mem_flatMap.2 ⟨l, hl, List.mem_map.2 ⟨i, hi, rfl⟩⟩
theorem lay_ok {ops : Array Oper} {ids : List Nat} {rest : Nat} {full : Array Bool} {fuel : Nat} {l : Array Bool} (h : layOk ops ids rest full fuel [l] = true) : blockOk ops ids rest full fuel l = true := layOk_all h l (by simp)
/-- a scope through which the run goes without a jump -/
theorem WP.sc {Q : Exit → Act → World → Prop} {c : Code} (h : WP P n c l w (Exit.noGoto Q)) (hro : n.round = none := by rfl) : WP P n (.scope c) l w Q := fun a ha => by
  have e : n.fence = Fence.wide := Cx.fence_wide hro
  rw [e]
  refine wpIn_wide.2 (wp_scope_straight ?_)
  have h1 := h a ha
  rw [e] at h1
  exact wpIn_wide.1 h1
theorem WP.lab {Q : Exit → Act → World → Prop} {lb : Nat} (h : Pst n Q .normal l w) : WP P n (.label lb) l w Q := fun a ha => wpIn_label (h a ha)
theorem Pst.sc_norm {Q : Exit → Act → World → Prop} (h : Pst n Q .normal l w) : Pst n (Exit.noGoto Q) .normal l w := fun a ha => h a ha
theorem Pst.sc_ret {Q : Exit → Act → World → Prop} (h : Pst n Q .ret l w) : Pst n (Exit.noGoto Q) .ret l w := fun a ha => h a ha
theorem run_setS {t kt et : TypeId} {z : Int} {g : Nat} {s : List Int} (hm : P.underlying t = some (.map kt et)) (hk : P.underlying kt = some (.int .i64)) (hb : w.heap[g]? = some (.map (setE s) s.length)) :
    (Instr.mapUpdate t (.map (some g)) (.int .i64 z) (.bool true)).run P w = .ok () (w.putObj g (.map (setE (addS s z)) (addS s z).length)) := by
  have hz : MapKept.IsKey (.int .i64) (.int .i64 z) := by simp [MapKept.IsKey]
  have h1 : (Instr.checkKey false 10000 kt (.int .i64 z)).run P w = .ok () w := MapKept.run_checkKey (n := 9999) hk hz false
  rcases MapKept.findNow_spec hz (setE s).toList 0 (setE_keys s) with ⟨hf, hno⟩ | ⟨j, e, hf, hj, he⟩
  · have hc : s.contains z = false := by
      rw [Bool.eq_false_iff, ne_eq, List.contains_iff_mem]
      intro hmem
      obtain ⟨j, hj⟩ := List.getElem?_of_mem hmem
      have h2 : (setE s).toList[j]? = some ⟨.int .i64 z, .bool true, j⟩ := by simp [setE, hj]
      exact hno _ (List.mem_of_getElem? h2) rfl
    have ha : addS s z = s ++ [z] := by unfold addS; rw [hc]; rfl
    have h2 := MapKept.run_findKey (P := P) (w := w) hk hf
    unfold Instr.mapUpdate
    simp only [Sem.run_bind, run_underlying hm, Result.andThen_ok, MapKept.run_getObj_map hb, h1, h2, MapKept.run_setObj_map _ hb]
    rw [ha, ← setE_push, List.length_append]
    rfl
  · obtain ⟨y, hy, rfl⟩ := setE_get hj
    have hyz : y = z := by injection he
    subst hyz
    have ha : addS s y = s := by unfold addS; rw [if_pos (by rw [List.contains_iff_mem]; exact List.mem_of_getElem? hy)]
    have h2 := MapKept.run_findKey (P := P) (w := w) hk hf
    have h3 : (((setE s)[0 + j]?).map (·.key)).getD (.int .i64 y) = .int .i64 y := by
      rw [← Array.getElem?_toList, Nat.zero_add, hj]; rfl
    unfold Instr.mapUpdate
    simp only [Sem.run_bind, run_underlying hm, Result.andThen_ok, MapKept.run_getObj_map hb, h1, h2, h3, MapKept.run_keyThatStays hz, MapKept.run_setObj_map _ hb]
    rw [ha, Nat.zero_add, setE_modify hy]
    rfl
theorem setS {t kt et : TypeId} {m ky vy : Operand} {z : Int} {g : Nat} {s : List Int} (H : Hp b S w rs) (sl : Sel rs (rObj g (.map (setE s) s.length)) rest) (hx : evl l m = some (.map (some g))) (hkey : evl l ky = some (.int .i64 z)) (hv : evl l vy = some (.bool true))
    (hm : P.underlying t = some (.map kt et)) (hk : P.underlying kt = some (.int .i64))
    (k : ∀ w', Hp b S w' (rObj g (.map (setE (addS s z)) (addS s z).length) :: rest) → WL P n ops Q K os l w') : WL P n ops Q K (⟨none, .mapUpdate t m ky vy, ty, pos, aft, none⟩ :: os) l w :=
  WL.unit (fun a _ => wanted_none a) rfl (R := fun w' => w' = w.putObj g (.map (setE (addS s z)) (addS s z).length)) (fun a ha => ⟨_, by
    unfold execOp; simp [ha.eval hx, ha.eval hkey, ha.eval hv, run_setS hm hk (H.obj sl)], rfl⟩) fun w' e => by
    subst e; exact k _ (H.putObj sl _)
abbrev rSet (g : Nat) (s : List Int) : Res := rObj g (.map (setE s) s.length)
theorem mks {t : TypeId} (H : Hp b S w rs) (hd : Nat.blt d n.size = true) (k : ∀ g w', Hp b S w' (rSet g [] :: rs) → WL P n ops Q K os ((d, .map (some g)) :: l) w') : WL P n ops Q K (⟨some d, .makeMap t none, ty, pos, aft, none⟩ :: os) l w := mkm H hd k
theorem Ev.lenS {t kt et : TypeId} {m : Operand} {g : Nat} {s : List Int} (H : Hp b S w rs) (sl : Sel rs (rObj g (.map (setE s) s.length)) rest) (hm : P.underlying t = some (.map kt et)) (hx : evl l m = some (.map (some g))) : Ev P n l w (.call ⟨.builtin .len, #[m], #[t]⟩) (.int .i64 (s.length : Int)) := fun o a w' ho ha ex => by
  have hb : w'.heap[g]? = some (.map (setE s) s.length) := (ex.block g (Array.getElem?_eq_some_iff.1 (H.obj sl)).1).trans (H.obj sl)
  have h1 : (Builtin.len_ #[t] o.type #[.map (some g)]).run P w' = .ok (.int .i64 (s.length : Int)) w' := by
    simp only [Builtin.len_]
    simp [run_underlying hm, MapKept.run_getObj_map hb, setE_size, Result.andThen]
    rfl
  unfold execOp; rw [ho]
  simp only [resolve, Sem.run_bind, Sem.run_pure, Result.andThen_ok, invoke, builtin, List.map_toArray, List.map_cons, List.map_nil, ha.eval hx, h1]
end
theorem filt_at {α : Type} {p : α → Bool} {xs ys : List α} {i j : Nat} {x : α} (hij : i < j) (h1 : ys.take i = (xs.take j).filter p) (h2 : ys.drop j = xs.drop j) (hx : ys[j]? = some x) (hp : p x = true) :
    (ys.set i x).take (i + 1) = (xs.take (j + 1)).filter p ∧ (ys.set i x).drop (j + 1) = xs.drop (j + 1) := by
  have hxs : xs[j]? = some x := by
    have h3 : (ys.drop j)[0]? = (xs.drop j)[0]? := by rw [h2]
    simpa [List.getElem?_drop, hx] using h3.symm
  have hi : i < ys.length := by have := lt_of_get hx; omega
  refine ⟨?_, ?_⟩
  · rw [take_snoc (List.getElem?_set_self hi), List.take_set_of_le (Nat.le_refl _), h1, take_snoc hxs, List.filter_append]
    simp [hp]
  · rw [List.drop_set_of_lt (by omega), ← List.drop_drop, h2, List.drop_drop]
theorem filt_no {α : Type} {p : α → Bool} {xs ys : List α} {i j : Nat} {x : α} (h1 : ys.take i = (xs.take j).filter p) (h2 : ys.drop j = xs.drop j) (hx : ys[j]? = some x) (hp : p x = false) :
    ys.take i = (xs.take (j + 1)).filter p ∧ ys.drop (j + 1) = xs.drop (j + 1) := by
  have hxs : xs[j]? = some x := by
    have h3 : (ys.drop j)[0]? = (xs.drop j)[0]? := by rw [h2]
    simpa [List.getElem?_drop, hx] using h3.symm
  refine ⟨?_, ?_⟩
  · rw [h1, take_snoc hxs, List.filter_append]; simp [hp]
  · rw [← List.drop_drop, h2, List.drop_drop]
end Go.Proofs.YtjcklpooaaaglaaGreat
set_option linter.all false
namespace Go.Proofs.YtjcklpooaaaglaaGreat
open Go.RowKit

section
variable {P : Program} {n : Cx} {l : List (Nat × Value)} {b w : World} {S : Nat → Prop} {rs rest : List Res} {Q : Exit → Act → World → Prop} {K : Act → World → Prop} {ops : Array Oper} {os : List Oper} {ty : TypeId} {pos : String} {aft : Array Edge} {d : Nat}
theorem Hp.was {g : Nat} {o : Obj} (H : Hp b S w rs) (h : b.heap[g]? = some o) : w.heap[g]? = some o := (H.ext.block g (Array.getElem?_eq_some_iff.1 h).1).trans h
theorem setE_none {s : List Int} {z : Int} (hno : ∀ x ∈ (setE s).toList, x.key ≠ .int .i64 z) : s.contains z = false := by
  rw [Bool.eq_false_iff, ne_eq, List.contains_iff_mem]
  intro hmem
  obtain ⟨j, hj⟩ := List.getElem?_of_mem hmem
  have h2 : (setE s).toList[j]? = some ⟨.int .i64 z, .bool true, j⟩ := by simp [setE, hj]
  exact hno _ (List.mem_of_getElem? h2) rfl
theorem run_lookS {t kt et : TypeId} {z : Int} {g : Nat} {s : List Int} (hm : P.underlying t = some (.map kt et)) (hk : P.underlying kt = some (.int .i64)) (hz : ∀ w, (zeroValue et).run P w = .ok (.bool false) w) (hb : w.heap[g]? = some (.map (setE s) s.length)) :
    (Instr.lookup t (.map (some g)) (.int .i64 z) false).run P w = .ok (.bool (s.contains z)) w := by
  have hkz : MapKept.IsKey (.int .i64) (.int .i64 z) := by simp [MapKept.IsKey]
  have h1 : ∀ e, (Instr.checkKey e 10000 kt (.int .i64 z)).run P w = .ok () w := fun e => MapKept.run_checkKey (n := 9999) hk hkz e
  rcases MapKept.findNow_spec hkz (setE s).toList 0 (setE_keys s) with ⟨hf, hno⟩ | ⟨j, e, hf, hj, he⟩
  · have h2 := MapKept.run_findKey (P := P) (w := w) hk hf
    unfold Instr.lookup
    simp only [Sem.run_bind, run_underlying hm, Result.andThen_ok, MapKept.run_getObj_map hb, Sem.run_pure, h1, h2, hz]
    rw [setE_none hno]; rfl
  · obtain ⟨y, hy, rfl⟩ := setE_get hj
    have hyz : y = z := by injection he
    subst hyz
    have h2 := MapKept.run_findKey (P := P) (w := w) hk hf
    unfold Instr.lookup
    simp only [Sem.run_bind, run_underlying hm, Result.andThen_ok, MapKept.run_getObj_map hb, Sem.run_pure, h1, h2]
    rw [show s.contains y = true from List.contains_iff_mem.2 (List.mem_of_getElem? hy)]; rfl
theorem Ev.lookS {t kt et : TypeId} {z : Int} {g : Nat} {s : List Int} {m ky : Operand} (hb : w.heap[g]? = some (.map (setE s) s.length)) (hm : P.underlying t = some (.map kt et)) (hk : P.underlying kt = some (.int .i64)) (hz : ∀ w, (zeroValue et).run P w = .ok (.bool false) w) (hx : evl l m = some (.map (some g))) (hy : evl l ky = some (.int .i64 z)) :
    Ev P n l w (.lookup t m ky false) (.bool (s.contains z)) := fun o a w' ho ha ex => by
  have hb' : w'.heap[g]? = some (.map (setE s) s.length) := (ex.block g (Array.getElem?_eq_some_iff.1 hb).1).trans hb
  unfold execOp; rw [ho]
  simp only [ha.eval hx, ha.eval hy]
  simp only [Sem.run_bind, run_lookS (P := P) (s := s) (z := z) hm hk hz hb', Result.andThen_ok, Sem.run_pure]
/-! ### counts by key -/
def cntE (s : List (Int × Int)) : Array MapEntry := (s.zipIdx.map fun p => ⟨.int .i64 p.1.1, .int .i64 p.1.2, p.2⟩).toArray
def getC (s : List (Int × Int)) (z : Int) : Int := match s.find? (fun p => decide (p.1 = z)) with | some p => p.2 | none => 0
def putC (s : List (Int × Int)) (z v : Int) : List (Int × Int) := if s.any (fun p => decide (p.1 = z)) then s.map (fun p => if p.1 = z then (z, v) else p) else s ++ [(z, v)]
abbrev rCnt (g : Nat) (s : List (Int × Int)) : Res := rObj g (.map (cntE s) s.length)
theorem cntE_get {s : List (Int × Int)} {j : Nat} {e : MapEntry} (h : (cntE s).toList[j]? = some e) : ∃ p, s[j]? = some p ∧ e = ⟨.int .i64 p.1, .int .i64 p.2, j⟩ := by
  simp only [cntE, List.getElem?_map, List.getElem?_zipIdx, Nat.zero_add] at h
  cases hs : s[j]? with
  | none => simp [hs] at h
  | some p => simp [hs] at h; exact ⟨p, rfl, h.symm⟩
theorem cntE_keys (s : List (Int × Int)) : ∀ x ∈ (cntE s).toList, MapKept.IsKey (.int .i64) x.key := by
  intro x hx
  obtain ⟨j, hj⟩ := List.getElem?_of_mem hx
  obtain ⟨z, _, rfl⟩ := cntE_get hj
  simp [MapKept.IsKey]
theorem cntE_none {s : List (Int × Int)} {z : Int} (hno : ∀ x ∈ (cntE s).toList, x.key ≠ .int .i64 z) : ∀ p ∈ s, p.1 ≠ z := by
  intro p hp e
  obtain ⟨j, hj⟩ := List.getElem?_of_mem hp
  have h2 : (cntE s).toList[j]? = some ⟨.int .i64 p.1, .int .i64 p.2, j⟩ := by simp [cntE, hj]
  exact hno _ (List.mem_of_getElem? h2) (by rw [e])
/-- each key once -/
def KeyOnce (s : List (Int × Int)) : Prop := s.Pairwise fun p q => p.1 ≠ q.1
theorem getC_at {s : List (Int × Int)} (hs : KeyOnce s) {p : Int × Int} (hp : p ∈ s) : getC s p.1 = p.2 := by
  induction s with
  | nil => simp at hp
  | cons q s ih =>
    have h1 := List.pairwise_cons.1 hs
    unfold getC
    by_cases e : q.1 = p.1
    · rw [List.find?_cons_of_pos (by simpa using e)]
      rcases List.mem_cons.1 hp with h | h
      · rw [h]
      · exact absurd e (h1.1 p h)
    · rw [List.find?_cons_of_neg (by simpa using e)]
      exact ih h1.2 ((List.mem_cons.1 hp).resolve_left fun h => e (h ▸ rfl))
theorem getC_no {s : List (Int × Int)} {z : Int} (h : ∀ p ∈ s, p.1 ≠ z) : getC s z = 0 := by
  unfold getC; rw [List.find?_eq_none.2 (fun p hp => by simpa using h p hp)]
theorem run_lookC {t kt et : TypeId} {z : Int} {g : Nat} {s : List (Int × Int)} (hs : KeyOnce s) (hm : P.underlying t = some (.map kt et)) (hk : P.underlying kt = some (.int .i64)) (hz : ∀ w, (zeroValue et).run P w = .ok (.int .i64 0) w) (hb : w.heap[g]? = some (.map (cntE s) s.length)) :
    (Instr.lookup t (.map (some g)) (.int .i64 z) false).run P w = .ok (.int .i64 (getC s z)) w := by
  have hkz : MapKept.IsKey (.int .i64) (.int .i64 z) := by simp [MapKept.IsKey]
  have h1 : ∀ e, (Instr.checkKey e 10000 kt (.int .i64 z)).run P w = .ok () w := fun e => MapKept.run_checkKey (n := 9999) hk hkz e
  rcases MapKept.findNow_spec hkz (cntE s).toList 0 (cntE_keys s) with ⟨hf, hno⟩ | ⟨j, e, hf, hj, he⟩
  · have h2 := MapKept.run_findKey (P := P) (w := w) hk hf
    unfold Instr.lookup
    simp only [Sem.run_bind, run_underlying hm, Result.andThen_ok, MapKept.run_getObj_map hb, Sem.run_pure, h1, h2, hz]
    rw [getC_no (cntE_none hno)]; rfl
  · obtain ⟨p, hp, rfl⟩ := cntE_get hj
    have hyz : p.1 = z := by injection he
    subst hyz
    have h2 := MapKept.run_findKey (P := P) (w := w) hk hf
    unfold Instr.lookup
    simp only [Sem.run_bind, run_underlying hm, Result.andThen_ok, MapKept.run_getObj_map hb, Sem.run_pure, h1, h2]
    rw [getC_at hs (List.mem_of_getElem? hp)]; rfl
theorem Ev.lookC {t kt et : TypeId} {z : Int} {g : Nat} {s : List (Int × Int)} {m ky : Operand} (hb : w.heap[g]? = some (.map (cntE s) s.length)) (hs : KeyOnce s) (hm : P.underlying t = some (.map kt et)) (hk : P.underlying kt = some (.int .i64)) (hz : ∀ w, (zeroValue et).run P w = .ok (.int .i64 0) w) (hx : evl l m = some (.map (some g))) (hy : evl l ky = some (.int .i64 z)) :
    Ev P n l w (.lookup t m ky false) (.int .i64 (getC s z)) := fun o a w' ho ha ex => by
  have hb' : w'.heap[g]? = some (.map (cntE s) s.length) := (ex.block g (Array.getElem?_eq_some_iff.1 hb).1).trans hb
  unfold execOp; rw [ho]
  simp only [ha.eval hx, ha.eval hy]
  simp only [Sem.run_bind, run_lookC (P := P) (s := s) (z := z) hs hm hk hz hb', Result.andThen_ok, Sem.run_pure]
theorem cntE_push (s : List (Int × Int)) (z v : Int) : (cntE s).push ⟨.int .i64 z, .int .i64 v, s.length⟩ = cntE (s ++ [(z, v)]) := by
  simp [cntE, List.zipIdx_append]
theorem putC_len (s : List (Int × Int)) (z v : Int) : (putC s z v).length = if s.any (fun p => decide (p.1 = z)) then s.length else s.length + 1 := by
  unfold putC; split <;> simp
theorem putC_once {s : List (Int × Int)} (hs : KeyOnce s) (z v : Int) : KeyOnce (putC s z v) := by
  unfold putC; split
  · refine List.pairwise_map.2 (hs.imp fun {p q} h => ?_)
    split <;> split <;> simp_all
  · rename_i h
    refine List.pairwise_append.2 ⟨hs, List.pairwise_singleton _ _, fun p hp q hq e => h ?_⟩
    rw [List.mem_singleton.1 hq] at e
    exact List.any_eq_true.2 ⟨p, hp, by simpa using e⟩
theorem cntE_modify {s : List (Int × Int)} (hs : KeyOnce s) {j : Nat} {p : Int × Int} (h : s[j]? = some p) (v : Int) : (cntE s).modify j (fun e => { e with key := .int .i64 p.1, val := .int .i64 v }) = cntE (putC s p.1 v) := by
  have ha : putC s p.1 v = s.map (fun q => if q.1 = p.1 then (p.1, v) else q) := if_pos (List.any_eq_true.2 ⟨p, List.mem_of_getElem? h, by simp⟩)
  rw [ha]
  apply Array.ext_getElem?
  intro i
  rw [Array.getElem?_modify]
  have hE : ∀ (t : List (Int × Int)) (k : Nat), (cntE t)[k]? = (t[k]?).map fun q => ⟨.int .i64 q.1, .int .i64 q.2, k⟩ := fun t k => by
    rw [← Array.getElem?_toList]; simp only [cntE, List.getElem?_map, List.getElem?_zipIdx, Nat.zero_add]
    cases t[k]? <;> rfl
  rw [hE, hE, List.getElem?_map]
  by_cases hij : j = i
  · subst hij
    rw [if_pos rfl, h]; simp
  · rw [if_neg hij]
    cases hi : s[i]? with
    | none => rfl
    | some q =>
      simp only [Option.map_some]
      have hne : q.1 ≠ p.1 := fun e => by
        have hlj := (List.getElem?_eq_some_iff.1 h).1
        have hli := (List.getElem?_eq_some_iff.1 hi).1
        have h1 := List.pairwise_iff_getElem.1 hs
        rcases Nat.lt_or_gt_of_ne hij with h3 | h3
        · have := h1 j i hlj hli h3
          rw [(List.getElem?_eq_some_iff.1 h).2, (List.getElem?_eq_some_iff.1 hi).2] at this; exact this e.symm
        · have := h1 i j hli hlj h3
          rw [(List.getElem?_eq_some_iff.1 h).2, (List.getElem?_eq_some_iff.1 hi).2] at this; exact this e
      rw [if_neg hne]
theorem run_setC {t kt et : TypeId} {z v : Int} {g : Nat} {s : List (Int × Int)} (hs : KeyOnce s) (hm : P.underlying t = some (.map kt et)) (hk : P.underlying kt = some (.int .i64)) (hb : w.heap[g]? = some (.map (cntE s) s.length)) :
    (Instr.mapUpdate t (.map (some g)) (.int .i64 z) (.int .i64 v)).run P w = .ok () (w.putObj g (.map (cntE (putC s z v)) (putC s z v).length)) := by
  have hz : MapKept.IsKey (.int .i64) (.int .i64 z) := by simp [MapKept.IsKey]
  have h1 : (Instr.checkKey false 10000 kt (.int .i64 z)).run P w = .ok () w := MapKept.run_checkKey (n := 9999) hk hz false
  rcases MapKept.findNow_spec hz (cntE s).toList 0 (cntE_keys s) with ⟨hf, hno⟩ | ⟨j, e, hf, hj, he⟩
  · have hno' := cntE_none hno
    have ha : putC s z v = s ++ [(z, v)] := if_neg (by rw [List.any_eq_true]; rintro ⟨p, hp, h⟩; exact hno' p hp (by simpa using h))
    have h2 := MapKept.run_findKey (P := P) (w := w) hk hf
    unfold Instr.mapUpdate
    simp only [Sem.run_bind, run_underlying hm, Result.andThen_ok, MapKept.run_getObj_map hb, h1, h2, MapKept.run_setObj_map _ hb]
    rw [ha, ← cntE_push, List.length_append]
    rfl
  · obtain ⟨p, hp, rfl⟩ := cntE_get hj
    have hyz : p.1 = z := by injection he
    subst hyz
    have ha : (putC s p.1 v).length = s.length := by rw [putC_len, if_pos (List.any_eq_true.2 ⟨p, List.mem_of_getElem? hp, by simp⟩)]
    have h2 := MapKept.run_findKey (P := P) (w := w) hk hf
    have h3 : (((cntE s)[0 + j]?).map (·.key)).getD (.int .i64 p.1) = .int .i64 p.1 := by
      rw [← Array.getElem?_toList, Nat.zero_add, hj]; rfl
    unfold Instr.mapUpdate
    simp only [Sem.run_bind, run_underlying hm, Result.andThen_ok, MapKept.run_getObj_map hb, h1, h2, h3, MapKept.run_keyThatStays hz, MapKept.run_setObj_map _ hb]
    rw [ha, Nat.zero_add, cntE_modify hs hp]
    rfl
theorem setC {t kt et : TypeId} {m ky vy : Operand} {z v : Int} {g : Nat} {s : List (Int × Int)} (hs : KeyOnce s) (H : Hp b S w rs) (sl : Sel rs (rCnt g s) rest) (hx : evl l m = some (.map (some g))) (hkey : evl l ky = some (.int .i64 z)) (hv : evl l vy = some (.int .i64 v))
    (hm : P.underlying t = some (.map kt et)) (hk : P.underlying kt = some (.int .i64))
    (k : ∀ w', Hp b S w' (rCnt g (putC s z v) :: rest) → WL P n ops Q K os l w') : WL P n ops Q K (⟨none, .mapUpdate t m ky vy, ty, pos, aft, none⟩ :: os) l w :=
  WL.unit (fun a _ => wanted_none a) rfl (R := fun w' => w' = w.putObj g (.map (cntE (putC s z v)) (putC s z v).length)) (fun a ha => ⟨_, by
    unfold execOp; simp [ha.eval hx, ha.eval hkey, ha.eval hv, run_setC hs hm hk (H.obj sl)], rfl⟩) fun w' e => by
    subst e; exact k _ (H.putObj sl _)
theorem mkc {t : TypeId} (H : Hp b S w rs) (hd : Nat.blt d n.size = true) (k : ∀ g w', Hp b S w' (rCnt g [] :: rs) → WL P n ops Q K os ((d, .map (some g)) :: l) w') : WL P n ops Q K (⟨some d, .makeMap t none, ty, pos, aft, none⟩ :: os) l w := mkm H hd k
end
/-! ### numbers of any size as floats -/
abbrev fz (z : Int) : Nat := FloatKind.f64.nearest z
theorem c01 : FloatKind.f64.format.add 0 4607182418800017408 = some (fb 1) := by decide +kernel
theorem fz_nat (m : Nat) : fz (m : Int) = fb m := rfl
theorem read_write_num (neg : Bool) (mag : Nat) (place : Int) : (Ieee.double.read (Ieee.double.nearest neg mag place)).isNaN = false := by
  have key : ∀ (s : Bool) (r : Nat), r ≤ Ieee.double.infRung → (Ieee.double.read (Ieee.double.word s r)).isNaN = false := by
    intro s r hr
    have hI : Ieee.double.infRung < Ieee.double.signWeight := by decide
    have hm : Ieee.double.word s r % Ieee.double.signWeight = r := by
      unfold Ieee.Format.word
      cases s
      · show r % Ieee.double.signWeight = r
        exact Nat.mod_eq_of_lt (by omega)
      · show (Ieee.double.signWeight + r) % Ieee.double.signWeight = r
        rw [Nat.add_mod_left]; exact Nat.mod_eq_of_lt (by omega)
    unfold Ieee.Format.read
    simp only [hm]
    split
    · rfl
    · split
      · rfl
      · split
        · rfl
        · omega
  unfold Ieee.Format.nearest
  split
  · exact key _ _ (Nat.zero_le _)
  · exact key _ _ (Nat.min_le_right _ _)
theorem fz_add0 (z : Int) : ∃ e, FloatKind.f64.format.add (fz z) 0 = some e := by
  have h := read_write_num (decide (z < 0)) z.natAbs 0
  have h0 : Ieee.double.read 0 = .number false 0 Ieee.double.leastPlace := by decide
  show ∃ e, ((Ieee.double.read (fz z)).sum (Ieee.double.read 0)).map Ieee.double.write = some e
  have he : fz z = Ieee.double.nearest (decide (z < 0)) z.natAbs 0 := rfl
  rw [he, h0]
  cases hr : Ieee.double.read (Ieee.double.nearest (decide (z < 0)) z.natAbs 0) with
  | number s m i => exact ⟨_, rfl⟩
  | infinity s => exact ⟨_, rfl⟩
  | nan s f => rw [hr] at h; cases h
/-- the imaginary part behind one more real one, or none -/
def wIm (o : Bool) (z : Int) : Nat := if o = true then (FloatKind.f64.format.add (fz z) 0).getD 0 else fz z
theorem wIm_add (z : Int) : FloatKind.f64.format.add (fz z) 0 = some (wIm true z) := by
  obtain ⟨e, h⟩ := fz_add0 z
  rw [h]; show some e = some _; unfold wIm; rw [if_pos rfl, h]; rfl
theorem wIm_ok (o : Bool) {m : Nat} (h : m < 130) : wIm o (m : Int) = fb m := by
  unfold wIm; split
  · rw [fz_nat, fb_add0 m h]; rfl
  · rfl
theorem fb_ne : ∀ n, n < 70 → ∀ m, m < 70 → ((FloatKind.f64.format.order (fb n) (fb m) == some .eq) = decide (n = m)) := by decide +kernel
theorem fb_lt : ∀ n, n < 70 → ∀ m, m < 70 → ((FloatKind.f64.format.order (fb n) (fb m) == some .lt) = decide (n < m)) := by decide +kernel
section
variable {P : Program} {n : Cx} {l : List (Nat × Value)} {w : World} {t ty : TypeId} {x y : Operand}
theorem Ev.fneq {a b : Nat} (ha : a < 70) (hb : b < 70) (hx : evl l x = some (.float .f64 (fb a))) (hy : evl l y = some (.float .f64 (fb b))) : Ev P n l w (.binOp .neq t x y ty) (.bool (!decide (a = b))) :=
  Ev.binop hx hy (eqGuard_at_float ..) fun w => by
    have := fb_ne a ha b hb
    simp [binOp, Op.floatCmp, bne, this]
theorem Ev.flss {a b : Nat} (ha : a < 70) (hb : b < 70) (hx : evl l x = some (.float .f64 (fb a))) (hy : evl l y = some (.float .f64 (fb b))) : Ev P n l w (.binOp .lss t x y ty) (.bool (decide (a < b))) :=
  Ev.binop hx hy (eqGuard_at_float ..) fun w => by
    have := fb_lt a ha b hb
    simp [binOp, Op.floatCmp, this]
theorem Ev.itofz {d : TypeId} {k : IntKind} {z : Int} (hs : ∃ k, P.underlying t = some k) (hd : P.underlying d = some (.float .f64)) (hx : evl l x = some (.int k z)) : Ev P n l w (.convert t d x) (.float .f64 (fz z)) := fun o ac w' ho ha _ => by
  unfold execOp; rw [ho]
  obtain ⟨k, hk⟩ := hs
  simp [ha.eval hx, convert, run_underlying hk, run_underlying hd, Conv.intToFloat]
theorem Ev.mkcx {a b : Nat} {ts : Array TypeId} (hx : evl l x = some (.float .f64 a)) (hy : evl l y = some (.float .f64 b)) : Ev P n l w (.call ⟨.builtin .complex, #[x, y], ts⟩) (.complex .f64 a b) := fun o ac w' ho ha _ => by
  unfold execOp; rw [ho]
  simp only [resolve, Sem.run_bind, Sem.run_pure, Result.andThen_ok, invoke, builtin, List.map_toArray, List.map_cons, List.map_nil, ha.eval hx, ha.eval hy]
  rfl
end
end Go.Proofs.YtjcklpooaaaglaaGreat
set_option linter.all false
namespace Go.Proofs.YtjcklpooaaaglaaGreat
open Go.RowKit
section
variable {P : Program} {n : Cx} {l : List (Nat × Value)} {w : World} {t ty : TypeId} {x y : Operand}
theorem Ev.quo {a c : Int} (hx : evl l x = some (.int .i64 a)) (hy : evl l y = some (.int .i64 c)) (hc : c ≠ 0) (h : I64 (a.tdiv c)) : Ev P n l w (.binOp .quo t x y ty) (.int .i64 (a.tdiv c)) :=
  Ev.binop hx hy (eqGuard_at_int ..) fun w => by
    have hw := h.wrap
    simp [binOp, Op.intDiv, hc, hw]
theorem Ev.idxA {e : TypeId} {len i : Nat} {cs : List Value} {v : Value} (hu : P.underlying t = some (.array len e)) (hs : Size P e 1) (hn : NotAgg P e) (hi : i < len) (hx : evl l x = some (.agg cs.toArray)) (hy : evl l y = some (.int .i64 (i : Int))) (hv : cs[i]? = some v) :
    Ev P n l w (.index t x y) v := fun o a w' ho ha _ => by
  unfold execOp; rw [ho]
  have h1 : (Instr.index t (.agg cs.toArray) (.int .i64 (i : Int))).run P w' = .ok v w' := by
    unfold Instr.index
    simp only [asIntOf, Sem.run_bind, Sem.run_pure, run_underlying hu, Result.andThen_ok]
    rw [if_pos ⟨by omega, by omega⟩]
    simp only [part, asAgg, Sem.run_bind, Sem.run_pure, Result.andThen_ok, hn w', hs w']
    simp [hv]
  simp [ha.eval hx, ha.eval hy, h1]
end
theorem half (i : Nat) : ((i : Int) - 1).tdiv 2 = (((i - 1) / 2 : Nat) : Int) := by
  cases i with
  | zero => rfl
  | succ i =>
    have e : (((i + 1 : Nat) : Int) - 1) = (i : Int) := by omega
    rw [e, Nat.add_sub_cancel]; rfl
end Go.Proofs.YtjcklpooaaaglaaGreat
set_option linter.all false
namespace Go.Proofs.YtjcklpooaaaglaaGreat
open Go.ChangeShapes Go.WideShapes Go.ChangeAt Go.RowKit Go.Deep

/-- what reads as data of this type is an element -/
def Reads {α : Type} (P : Program) (e : TypeId) (τ : Ty α) (good : α → Prop) : Prop :=
  ∀ {H : Type} (enc : TypeId × Value → H) (w : World) (base : Nat) (spare : Nat → Bool) (held : Bool) (fuel : Nat) (cs : List Value) (x : DataW H × List MemPlace),
    DataW.trod enc P w base spare held fuel e cs = some x → ∃ y, τ.R Any w y cs ∧ good y

theorem in_i64 {x : Int} (h : (Lit.int .i64 x).wf = true) : InI64 x := by
  simp only [Lit.wf, Bool.and_eq_true, decide_eq_true_eq] at h
  have e1 : IntKind.i64.min = -9223372036854775808 := by decide
  have e2 : IntKind.i64.max = 9223372036854775807 := by decide
  rw [e1, e2] at h
  exact h
theorem in_u32 {x : Int} (h : (Lit.int .u32 x).wf = true) : InU32 x := by
  simp only [Lit.wf, Bool.and_eq_true, decide_eq_true_eq] at h
  have e1 : IntKind.u32.min = 0 := by decide
  have e2 : IntKind.u32.max = 4294967295 := by decide
  rw [e1, e2] at h
  exact h

section
variable {H : Type} {enc : TypeId × Value → H} {P : Program} {w : World} {base : Nat} {spare : Nat → Bool} {held : Bool}
theorem exists_list {α : Type} {q : Nat → α → Prop} : ∀ (n : Nat), (∀ i, i < n → ∃ x, q i x) → ∃ xs : List α, xs.length = n ∧ ∀ (i : Nat) (x : α), xs[i]? = some x → q i x
  | 0, _ => ⟨[], rfl, fun i x hx => by simp at hx⟩
  | n + 1, h => by
    obtain ⟨xs, h1, h2⟩ := exists_list n (fun i hi => h i (by omega))
    obtain ⟨x, hx⟩ := h n (by omega)
    refine ⟨xs ++ [x], by simp [h1], fun i y hy => ?_⟩
    by_cases hi : i < xs.length
    · rw [List.getElem?_append_left hi] at hy
      exact h2 i y hy
    · rw [List.getElem?_append_right (by omega)] at hy
      have h3 : i - xs.length = 0 := by
        rcases Nat.eq_zero_or_pos (i - xs.length) with h | h
        · exact h
        · rw [List.getElem?_eq_none (by simp; omega)] at hy; cases hy
      rw [h3] at hy
      simp at hy
      subst hy
      have : i = n := by omega
      subst this
      exact hx
theorem Reads.slice {α : Type} {e t : TypeId} {τ : Ty α} {good : α → Prop} (hr : Reads P e τ good) (hk : P.cellsOf e = τ.k) (ht : P.underlying t = some (.slice e)) {fuel : Nat} {cs : List Value} {x : DataW H × List MemPlace} (h : DataW.trod enc P w base spare held fuel t cs = some x) :
    ∃ (A : Option Addr) (xs : List α) (c : Nat), cs = [.slice A xs.length c] ∧ Sl τ Any w A c xs ∧ ∀ y ∈ xs, good y := by
  rcases open_slice ht h with ⟨h1, _⟩ | ⟨a, len, cap, m, n, D, Pl, h1, _, h3, h4, h5, _, h7⟩
  · exact ⟨none, [], 0, h1, Sl.none_ τ _ w, fun y hy => by simp at hy⟩
  · have hm : len ≤ m := by rw [h5]; split <;> omega
    obtain ⟨xs, hl, hx⟩ := exists_list (q := fun i y => (∃ cs', τ.R Any w y cs' ∧ ∀ j u, cs'[j]? = some u → w.cell? (a.add (i * τ.k + j)) = some u) ∧ good y) len (fun i hi => by
      obtain ⟨cs', hc, ht'⟩ := h7 i (by omega)
      obtain ⟨y, hy, hg⟩ := hr _ _ _ _ _ _ _ _ ht'
      obtain ⟨_, hcl, hat⟩ := World.cells?_some hc
      refine ⟨y, ⟨cs', hy, fun j u hu => ?_⟩, hg⟩
      have hj : j < P.cellsOf e := by
        have := (List.getElem?_eq_some_iff.1 hu).1
        omega
      have := hat j hj
      rw [Proofs.YtjcklpooaaaglaaGreat.add_of_add, hk] at this
      exact this.trans hu)
    subst hl
    refine ⟨some a, xs, cap, h1, ⟨h3, h4, (fun h => by cases h), fun i y hy => ⟨trivial, (hx i y hy).1⟩⟩, fun y hy => ?_⟩
    obtain ⟨i, hi⟩ := List.getElem?_of_mem hy
    exact (hx i y hi).2
theorem reads_int {e : TypeId} (ht : P.underlying e = some (.int .i64)) {τ : Ty Int} (hR : ∀ w x, τ.R Any w x [.int .i64 x]) : Reads P e τ InI64 := fun _ _ _ _ _ _ _ _ h => by
  obtain ⟨n, h1, _, h3⟩ := DataW.trod_int ht h
  subst h1
  exact ⟨n, hR _ n, in_i64 h3⟩
theorem arg_struct {α : Type} {t : TypeId} {fs : Array Field} {τ : Ty α} {good : α → Prop} (hr : Reads P t τ good) (hs : P.underlying t = some (.struct fs)) {r : Reach} {b0 : Nat} {v : Value} {d : DataW H} {p : List MemPlace} (hv : Value.okWide P w r b0 t v) (h : DataW.Trod enc P w base spare held t v d p) :
    ∃ (x : α) (cs : List Value), v = .agg cs.toArray ∧ τ.R Any w x cs ∧ good x := by
  obtain ⟨cs, rfl, _⟩ := okWide_struct hs hv
  obtain ⟨fuel, hf⟩ := h
  obtain ⟨x, h1, h2⟩ := hr _ _ _ _ _ _ _ _ hf
  exact ⟨x, cs.toList, by simp, h1, h2⟩
theorem get_ok {α : Type} {xs : List α} {n i : Nat} (h : xs.length = n) (hi : i < n) : ∃ y, xs[i]? = some y := ⟨xs[i]'(by omega), List.getElem?_eq_getElem _⟩
end
theorem len_succ {cs : List Value} {n : Nat} (h : cs.length = n + 1) : ∃ c cs', cs = c :: cs' ∧ cs'.length = n := by
  cases cs with
  | nil => simp at h
  | cons c cs => exact ⟨c, cs, rfl, by simpa using h⟩
theorem len_zero {cs : List Value} (h : cs.length = 0) : cs = [] := List.eq_nil_of_length_eq_zero h
end Go.Proofs.YtjcklpooaaaglaaGreat
