/- Texts that the statement needs, with short names. -/
import Derived.RangeFuncSeq
import Derived.RangeFuncLeaves
import Derived.Shelf.SlSortCmp.NoneTotal
import Derived.Shelf.Sort.Plain
import Derived.Shelf.Slices.In.SortNone
import Derived.Sort.OwnSortedInts
import Derived.Shelf.Slices.CompactI
import Derived.MapKept
import Derived.Test.YtjcklpooaaaglaaGreatvG1
set_option linter.all false
namespace Go.Proofs.YtjcklpooaaaglaaGreat
open Go.RowKit
def WI (P : Program) (n : Cx) (ops : Array Oper) (Q : Exit → Act → World → Prop) (fuel : Nat) (listed : Array Bool) (l : List (Nat × Value)) (w : World) : Prop :=
  ∀ a, Has n l a → wpAnyIn n.fence 0 P .any ops Q fuel listed a w
def rz (ops : Array Oper) (ids : List Nat) (rest : Nat) (full : Array Bool) : Nat → Array Bool → Bool
  | 0, listed => listed == full && rest == 0
  | f + 1, listed => if listed == full then f + 1 == rest else !(Region.ready .any ops listed).isEmpty && (Region.ready .any ops listed).all fun i => ids.contains i && rz ops ids rest full f (listed.setIfInBounds i true)
def Qi (P : Program) (n : Cx) (ops : Array Oper) (S : World → Prop) (l : List (Nat × Value)) (o : Oper) (v : Value) : Prop := ∀ a w, Has n l a → S w →
  (Region.wanted o (yielded ops a.tmps) = true ∧ ((execOp a.eval o).run P w = .ok (.value v) w ∨ ∃ f args, (execOp a.eval o).run P w = .ok (.enter f args) w ∧ bY P f args w fun u w' => u = v ∧ S w')) ∨ (Region.wanted o (yielded ops a.tmps) = false ∧ v = undef)
def P9 (o : Oper) (A : List (Nat × Nat × Value)) : List (Nat × Value) := (A.filter fun q => o.after.toList.any fun e => Region.binds .any e && e.on == q.1).map (·.2)
def nodupB : List Nat → Bool
  | [] => true
  | x :: xs => !xs.contains x && nodupB xs
theorem Dx : ∀ {A : List (Nat × Nat × Value)}, nodupB (A.map (·.2.1)) = true → A.Pairwise fun p q => p.2.1 ≠ q.2.1
  | [], _ => List.Pairwise.nil
  | p :: A, h => by
    simp only [List.map_cons, nodupB, Bool.and_eq_true, Bool.not_eq_true'] at h
    refine List.pairwise_cons.2 ⟨fun q hq e => ?_, Dx h.2⟩
    have : (A.map (·.2.1)).contains p.2.1 = true := by
      rw [List.contains_iff_mem]; exact List.mem_map.2 ⟨q, hq, e.symm⟩
    rw [this] at h; cases h.1
structure aa0 (P : Program) (n : Cx) (ops : Array Oper) (S : World → Prop) (l : List (Nat × Value)) (A : List (Nat × Nat × Value)) (p : Nat × Nat × Value) : Prop where
  ex : ∃ o, ops[p.1]? = some o ∧ o.dst = some p.2.1 ∧ Nat.blt p.2.1 n.size = true ∧ look l p.2.1 = none ∧ Qi P n ops S (P9 o A ++ l) o p.2.2
section
variable {P : Program} {n : Cx} {l l' : List (Nat × Value)} {w : World} {Q : Exit → Act → World → Prop} {ops : Array Oper} {fuel : Nat} {listed : Array Bool}
theorem WP.dr {ol : List Oper} {id : Nat} {y : Code} (hm : P.follows .mixedOrders = true) (h : WI P n ol.toArray (Exit.then (J7 P n y Q) Q) ol.length (List.replicate ol.length false).toArray l w.drew) : WP P n (.seq (.region id ol.toArray true) y) l w Q := fun a ha => by
  exact wpIn_seq (wpIn_region_any (Q := Exit.then (J7 P n y Q) Q) hm (by have := h a ha; simpa using this))
theorem WI.one (i : Nat) {o : Oper} (hr : Region.ready .any ops listed = [i]) (hi : ops[i]? = some o) (h : WL P n ops Q (fun a w => wpAnyIn n.fence 0 P .any ops Q fuel (listed.setIfInBounds i true) a w) [o] l w) (hp : n.plain = false := by rfl) : WI P n ops Q (fuel + 1) listed l w := by
  intro a ha
  refine ⟨fun h0 => (by rw [hr] at h0; cases h0), fun j hj => ?_⟩
  rw [hr] at hj
  obtain rfl := List.mem_singleton.1 hj
  have h1 := h a ha
  unfold FL at h1
  unfold wpOpIn
  rw [hi]
  show (if Region.wanted o (yielded ops a.tmps) then _ else _)
  split
  · rename_i hw
    rw [if_pos hw] at h1
    unfold NP at h1
    rw [hp] at h1
    exact h1
  · rename_i hw
    rw [if_neg hw] at h1
    exact ⟨fun _ _ => trivial, h1⟩
theorem WI.nx (k : WI P n ops Q fuel listed l w) : WL P n ops Q (fun a w => wpAnyIn n.fence 0 P .any ops Q fuel listed a w) [] l w := fun a ha => k a ha
theorem WI.dn {y : Code} (hr : Region.ready .any ops listed = []) (h : WP P n y l w Q) : WI P n ops (Exit.then (J7 P n y Q) Q) fuel listed l w := fun a ha => by
  cases fuel with
  | zero => exact ⟨hr, h a ha⟩
  | succ f => exact ⟨fun _ => h a ha, by rw [hr]; simp⟩
theorem Has.more {a : Act} (h : Has n l a) : ∀ {B : List (Nat × Value)}, (∀ q ∈ B, a.tmps.getD q.1 undef = q.2) → Has n (B ++ l) a
  | [], _ => h
  | q :: B, hB => by
    have h1 := Has.more h (B := B) fun q hq => hB q (by simp [hq])
    refine ⟨h.defers, h.size, fun i v hv => ?_⟩
    simp only [List.cons_append, look] at hv
    cases hb : Nat.beq q.1 i with
    | true => simp [hb] at hv; subst hv; rw [← Nat.eq_of_beq_eq_true hb]; exact hB q (by simp)
    | false => simp [hb] at hv; exact h1.get i v hv
theorem KE {A : List (Nat × Nat × Value)} (hd : A.Pairwise fun p q => p.2.1 ≠ q.2.1) {p q : Nat × Nat × Value} (hp : p ∈ A) (hq : q ∈ A) (hne : p ≠ q) : p.2.1 ≠ q.2.1 := by
  induction A with
  | nil => simp at hp
  | cons x A ih =>
    have h := List.pairwise_cons.1 hd
    rcases List.mem_cons.1 hp with hp' | hp' <;> rcases List.mem_cons.1 hq with hq' | hq'
    · exact absurd (hp'.trans hq'.symm) hne
    · rw [hp']; exact h.1 q hq'
    · rw [hq']; exact fun e => h.1 p hp' e.symm
    · exact ih h.2 hp' hq'
theorem Ry {a : Act} {d k : Nat} {v : Value} (h : k ≠ d) : (a.put (some d) v).tmps.getD k undef = a.tmps.getD k undef := by
  simp [Act.put, Array.getD_eq_getD_getElem?, Array.getElem?_setIfInBounds_ne (Ne.symm h)]
theorem WI.block {S : World → Prop} (A : List (Nat × Nat × Value)) (rest : Nat) (full : Array Bool) (hok : rz ops (A.map (·.1)) rest full fuel listed = true) (hd : nodupB (A.map (·.2.1)) = true) (hfull : A.all (fun p => full.getD p.1 false) = true) (hl0 : A.all (fun p => !listed.getD p.1 false) = true)
    (hq : ∀ p ∈ A, aa0 P n ops S l A p) (hS : S w) (k : ∀ w', S w' → WI P n ops Q rest full (A.map (·.2) ++ l) w') (hp : n.plain = false := by rfl) : WI P n ops Q fuel listed l w := by
  have key : ∀ (fuel : Nat) (listed : Array Bool) (a : Act) (w : World), rz ops (A.map (·.1)) rest full fuel listed = true → Has n l a → (∀ p ∈ A, listed.getD p.1 false = true → a.tmps.getD p.2.1 undef = p.2.2) → S w → wpAnyIn n.fence 0 P .any ops Q fuel listed a w := by
    intro fuel
    induction fuel with
    | zero =>
      intro listed a w hb ha hv hS
      simp only [rz, Bool.and_eq_true, beq_iff_eq] at hb
      obtain ⟨rfl, rfl⟩ := hb
      refine k w hS a (ha.more fun q hq => ?_)
      obtain ⟨p, X9, rfl⟩ := List.mem_map.1 hq
      exact hv p X9 (List.all_eq_true.1 hfull p X9)
    | succ f ih =>
      intro listed a w hb ha hv hS
      unfold rz at hb
      split at hb
      · rename_i he
        have he' : listed = full := eq_of_beq he
        have hr' : f + 1 = rest := eq_of_beq hb
        subst he' hr'
        refine k w hS a (ha.more fun q hq => ?_)
        obtain ⟨p, X9, rfl⟩ := List.mem_map.1 hq
        exact hv p X9 (List.all_eq_true.1 hfull p X9)
      · simp only [Bool.and_eq_true, Bool.not_eq_true', List.isEmpty_eq_false_iff, List.all_eq_true] at hb
        refine ⟨fun h0 => absurd h0 hb.1, fun i hi => ?_⟩
        have h1 := hb.2 i hi
        have hmem : i ∈ A.map (·.1) := by simpa using h1.1
        obtain ⟨p, X9, rfl⟩ := List.mem_map.1 hmem
        obtain ⟨o, ho, hdst, hblt, hnone, hqi⟩ := (hq p X9).ex
        obtain ⟨hun, o', ho', hall⟩ := mem_ready.1 hi
        rw [ho] at ho'
        obtain rfl := Option.some.inj ho'
        have hfr : Has n (P9 o A ++ l) a := ha.more fun q hq => by
          obtain ⟨p', hp', rfl⟩ := List.mem_map.1 hq
          obtain ⟨h2, h3⟩ := List.mem_filter.1 hp'
          obtain ⟨e, he, h4⟩ := List.any_eq_true.1 h3
          simp only [Bool.and_eq_true, beq_iff_eq] at h4
          exact hv p' h2 (by rw [← h4.2]; exact hall e (by simpa using he) h4.1)
        have next : ∀ w', S w' → wpAnyIn n.fence 0 P .any ops Q f (listed.setIfInBounds p.1 true) (a.put (some p.2.1) p.2.2) w' := by
          intro w' hS'
          refine ih _ _ _ h1.2 ?_ (fun q hqA hlq => ?_) hS'
          · have h5 := ha.put hblt p.2.2
            refine ⟨h5.defers, h5.size, fun j u hu => h5.get j u ?_⟩
            unfold look
            cases hb' : Nat.beq p.2.1 j with
            | true => rw [← Nat.eq_of_beq_eq_true hb', hnone] at hu; cases hu
            | false => simpa [hb'] using hu
          · by_cases hd' : q.2.1 = p.2.1
            · have : q = p := by
                by_cases e : q = p
                · exact e
                · exact absurd hd' (KE (Dx hd) hqA X9 e)
              subst this
              exact (ha.put hblt _).get _ _ (by simp [look])
            · rw [Ry hd']
              refine hv q hqA ?_
              by_cases e : p.1 = q.1
              · exfalso
                obtain ⟨o2, ho2, Zr, _⟩ := (hq q hqA).ex
                rw [← e, ho] at ho2
                obtain rfl := Option.some.inj ho2
                rw [hdst] at Zr
                exact hd' (Option.some.inj Zr).symm
              · rw [← hlq]; simp only [Array.getD_eq_getD_getElem?, Array.getElem?_setIfInBounds_ne e]
        unfold wpOpIn
        rw [ho]
        rcases hqi a w hfr hS with ⟨hw, hrun⟩ | ⟨hw, hv'⟩
        · show (if Region.wanted o (yielded ops a.tmps) then _ else _)
          rw [if_pos hw]
          have ad7 : ∀ K, NP P n o a w K Q → o.wpIn n.fence 0 P a w K Q := by intro K h; unfold NP at h; rw [hp] at h; exact h
          rcases hrun with hrun | ⟨g, args, hrun, hret⟩
          · exact ad7 _ (Ao hrun (by rw [hdst]; exact next w hS))
          · refine ad7 _ (Gm hrun (Calls.mono hret ?_))
            rintro e w' ⟨v, rfl, rfl, hS'⟩
            exact ⟨_, Y, by rw [hdst]; exact next w' hS'⟩
        · show (if Region.wanted o (yielded ops a.tmps) then _ else _)
          rw [if_neg (by rw [hw]; decide)]
          exact ⟨fun _ _ => trivial, by rw [hdst, ← hv']; exact next w hS⟩
  intro a ha
  exact key fuel listed a w hok ha (fun p X9 hl => by have := List.all_eq_true.1 hl0 p X9; rw [hl] at this; cases this) hS
end
def kK (g : Nat) (o : Obj) : jP where
  W := fun b => b = g
  ok := fun _ w => w.heap[g]? = some o
  sub := fun _ h => h
  keep := fun {_ w _} hm h => (hm g (.inl rfl) (Array.getElem?_eq_some_iff.1 h).1).trans h
section
variable {P : Program} {b w : World} {S : Nat → Prop} {rs rest F G : List jP}
theorem Hp.obj {g : Nat} {o : Obj} (H : Hp b S w rs) (s : nS rs (kK g o) rest) : w.heap[g]? = some o := H.ok (kK g o) (s.perm.mem_iff.2 (by simp))
theorem Hp.newObj (H : Hp b S w rs) (o : Obj) : Hp b S (w.alloc o) (kK w.heap.size o :: rs) :=
  H.new (r := kK w.heap.size o) (Ext.alloc w o) (fun g hg => by rw [show g = w.heap.size from hg]; simp) (World.alloc_heap_new w o)
theorem Hp.putObj {g : Nat} {o : Obj} (H : Hp b S w rs) (s : nS rs (kK g o) rest) (o' : Obj) : Hp b S (w.putObj g o') (kK g o' :: rest) :=
  (H.sel s).put (r' := kK g o') ⟨rfl, rfl, rfl, by simp, fun k hk hn => World.putObj_heap_other hn, Nat.le_refl _⟩ (fun g hg => .inl hg) (World.putObj_heap_same (Array.getElem?_eq_some_iff.1 (H.obj s)).1)
theorem Hp.comm (H : Hp b S w (F ++ G)) : Hp b S w (G ++ F) := H.perm List.perm_append_comm
end
def Iter (P : Program) (f : FuncId) (caps : List Value) {α : Type} (enc : α → List Value) (ys : List α) (b : World) (S : Nat → Prop) (G0 : List jP) : Prop :=
  ∀ (lr : Nat) (Jf Jx : List α → List jP → Prop) (w : World) (F0 : List jP), Hp b S w (F0 ++ G0) → Jf [] F0 →
    (∀ pre x W F G, Jf pre F → pre ++ [x] <+: ys → Hp b S W (F ++ G) → YieldAt Fence.wide 0 P lr (enc x).toArray W fun e W' =>
      (e = .returned (.bool true) ∧ ∃ F', Jf (pre ++ [x]) F' ∧ Hp b S W' (F' ++ G)) ∨ (e = .returned (.bool false) ∧ ∃ F', Jx (pre ++ [x]) F' ∧ Hp b S W' (F' ++ G))) →
    CallsIn Fence.wide 0 P f (#[.func (.yield lr) #[] #[]] ++ caps.toArray) w fun e w' => (∃ v, e = .returned v) ∧ ((∃ F', Jf ys F' ∧ Hp b S w' F') ∨ (∃ pre F', Jx pre F' ∧ Hp b S w' F'))
abbrev Cx.rnd (k lr : Nat) : Cx := ⟨k, some lr, [], false⟩
abbrev Cx.marked (k D : Nat) : Cx := ⟨k, none, [D], false⟩
def Uj {α : Type} (b : World) (S : Nat → Prop) (G : List jP) (Jf : List α → List jP → Prop) (Jx : Code → List α → List jP → Prop) (pre : List α) : Exit → Act → World → Prop
  | .normal, _, w => ∃ F, Jf pre F ∧ Hp b S w (F ++ G)
  | .ret, _, w => ∃ F, Jx .ret pre F ∧ Hp b S w (F ++ G)
  | .exit id, _, w => ∃ F, Jx (.exit id) pre F ∧ Hp b S w (F ++ G)
  | .goto t, _, w => ∃ F, Jx (.goto t) pre F ∧ Hp b S w (F ++ G)
  | _, _, _ => False
def Zt {α : Type} (n : Cx) (b : World) (S : Nat → Prop) (G : List jP) (Mid : List α → α → List (Nat × Value) → List jP → Prop) (pre : List α) (x : α) : Exit → Act → World → Prop
  | .normal, a, w => ∃ l1 F1, Has n l1 a ∧ Mid pre x l1 F1 ∧ Hp b S w (F1 ++ G)
  | _, _, _ => False
theorem wD : ∀ (ps : List Nat) (vs : List Value) (t : Array Value) (l : List (Nat × Value)) (k : Nat), ps.length = vs.length → (∀ p ∈ ps, p < k) → t.size = k → (∀ i v, look l i = some v → t.getD i undef = v) →
    ((ps.zip vs).foldl (fun t (p, v) => t.setIfInBounds p v) t).size = k ∧ ∀ i v, look ((ps.zip vs).reverse ++ l) i = some v → ((ps.zip vs).foldl (fun t (p, v) => t.setIfInBounds p v) t).getD i undef = v
  | [], vs, t, l, k, _, _, hs, hl => by
    simp only [List.zip_nil_left, List.foldl_nil, List.reverse_nil, List.nil_append]
    exact ⟨hs, hl⟩
  | p :: ps, [], t, l, k, h, _, _, _ => by simp at h
  | p :: ps, v :: vs, t, l, k, h, hp, hs, hl => by
    have hpk := hp p (by simp)
    simp only [List.zip_cons_cons, List.foldl_cons, List.reverse_cons, List.append_assoc, List.singleton_append]
    refine wD ps vs _ ((p, v) :: l) k (by simpa using h) (fun q hq => hp q (by simp [hq])) (by simp [hs]) (fun i u hu => ?_)
    unfold look at hu
    cases hb : Nat.beq p i with
    | true =>
      have := Nat.eq_of_beq_eq_true hb
      subst this
      simp [hb] at hu
      subst hu
      simp [Array.getD_eq_getD_getElem?, hs, hpk]
    | false =>
      simp [hb] at hu
      have := hl i u hu
      simpa [Array.getD_eq_getD_getElem?, Array.getElem?_setIfInBounds_ne (Nat.ne_of_beq_eq_false hb)] using this
section
variable {P : Program} {k : Nat} {l : List (Nat × Value)} {b w : World} {S : Nat → Prop} {Q : Exit → Act → World → Prop}
theorem WP.range {α : Type} {g : Operand} {ps : List Nat} {assign body : Code} {f : FuncId} {caps : List Value} {enc : α → List Value} {ys : List α} {F0 G0 : List jP} (hg : gF l g = some (.func (.func f) #[] caps.toArray)) (Ap : aM P f)
    (hit : Iter P f caps enc ys b S G0) (H : Hp b S w (F0 ++ G0)) (hps : ∀ x, (enc x).length = ps.length) (hpk : ps.all (fun p => Nat.blt p k) = true)
    (Jf : List α → List jP → Prop) (Jx : Code → List α → List jP → Prop) (Mid : List α → α → List (Nat × Value) → List jP → Prop) (h0 : Jf [] F0)
    (hassign : ∀ lr pre x F G W, Jf pre F → pre ++ [x] <+: ys → Hp b S W (F ++ G) → WP P (.rnd k lr) assign ((ps.zip (enc x)).reverse ++ l) W (Zt (.rnd k lr) b S G Mid pre x))
    (hbody : ∀ lr pre x l1 F1 G W, Mid pre x l1 F1 → pre ++ [x] <+: ys → Hp b S W (F1 ++ G) → WP P (.rnd k lr) body l1 W (Uj b S G Jf Jx (pre ++ [x])))
    (hdone : ∀ D F w', Jf ys F → Hp b S w' (kK D (.deferred (some [])) :: F) → aA (.marked k D) Q .normal l w')
    (hstop : ∀ D c pre F w', Jx c pre F → Hp b S w' (kK D (.deferred (some [])) :: F) → WP P (.marked k D) c l w' Q) :
    WP P (.bare k) (.rangeFunc g ps.toArray assign body) l w Q := by
  intro a ha
  have hgv := ha.eval hg
  refine wpIn_rangeFunc fun fn hfn => ?_
  obtain ⟨rec, hrec⟩ : ∃ rec : LoopState → Option Code → Loop, rec = fun st pe => { state := st, pending := pe, fn, tmps := a.tmps, params := ps.toArray, assign, body, defers := w.heap.size } := ⟨_, rfl⟩
  have H1 := H.newObj (.deferred (some []))
  have H2 := H1.newObj (.loop (rec .ready none))
  obtain ⟨W1, hW1⟩ : ∃ W1, (w.alloc (.deferred (some []))).alloc (.loop (rec .ready none)) = W1 := ⟨_, rfl⟩
  have hsz : (w.alloc (.deferred (some []))).heap.size = w.heap.size + 1 := by simp
  rw [hW1, hsz] at H2
  obtain ⟨D, hD⟩ : ∃ D, w.heap.size = D := ⟨_, rfl⟩
  obtain ⟨lr, hlr⟩ : ∃ lr, w.heap.size + 1 = lr := ⟨_, rfl⟩
  rw [hlr, hD] at H2
  refine ⟨lr, [{ target := .collected D, args := #[] }], W1, { target := .fn (.func f) caps.toArray, args := #[.func (.yield lr) #[] #[]] }, W1, f, #[.func (.yield lr) #[] #[]] ++ caps.toArray, W1, ?_, ?_, fun _ _ => trivial, ?_, (fun h => by cases h), ?_⟩
  · rw [← hW1, hrec, ← hD, ← hlr]; exact run_enterLoop_outer _ _ _ _ _
  · simp only [resolve, hgv]
    simp [go_sem]
  · simp only [invoke]
    exact Ap _ _
  · have Hn : Hp b S W1 ((kK lr (.loop (rec .ready none)) :: kK D (.deferred (some [])) :: F0) ++ G0) := H2
    refine (hit lr (fun pre F' => ∃ F, F' = kK lr (.loop (rec .ready none)) :: kK D (.deferred (some [])) :: F ∧ Jf pre F)
      (fun pre F' => ∃ c F, F' = kK lr (.loop (rec .done (some c))) :: kK D (.deferred (some [])) :: F ∧ Jx c pre F) W1 _ Hn ⟨F0, rfl, h0⟩ ?_).mono ?_
    · rintro pre x W F' G ⟨F, rfl, hJ⟩ hpre Hw
      have ah4 : W.heap[lr]? = some (.loop (rec .ready none)) := Hw.obj s0
      have hy := run_yield (P := P) (args := (enc x).toArray) ah4 (by rw [hrec]; simp [hps])
      rw [hrec] at hy
      refine ⟨fn, _, assign, body, hy, roundIn_of_wpIn trivial ?_⟩
      have Hw2 : Hp b S W (F ++ (kK lr (.loop (rec .ready none)) :: kK D (.deferred (some [])) :: G)) :=
        Hw.perm (by
          have : (kK lr (.loop (rec .ready none)) :: kK D (.deferred (some [])) :: F) ++ G = [kK lr (.loop (rec .ready none)), kK D (.deferred (some []))] ++ F ++ G := by simp
          rw [this]
          refine (List.perm_append_comm.append_right G).trans ?_
          rw [List.append_assoc]
          exact List.Perm.refl _)
      have hfr := wD ps (enc x) a.tmps l k (hps x).symm (fun p hp => by have := List.all_eq_true.1 hpk p hp; simpa [Nat.blt_eq] using this) ha.size ha.get
      have ah5 : Has (.rnd k lr) ((ps.zip (enc x)).reverse ++ l) { tmps := (ps.toArray.zip (enc x).toArray).foldl (fun t (p, v) => t.setIfInBounds p v) a.tmps, defers := [] } := by
        have he : (ps.toArray.zip (enc x).toArray).foldl (fun t (p, v) => t.setIfInBounds p v) a.tmps = (ps.zip (enc x)).foldl (fun t (p, v) => t.setIfInBounds p v) a.tmps := by
          rw [List.zip_toArray, List.foldl_toArray]
        rw [he]
        exact ⟨Y, hfr.1, hfr.2⟩
      have has := hassign lr pre x F _ W hJ hpre Hw2 _ ah5
      refine wpIn_mono has ?_
      rintro e a1 w1 hq
      cases e with
      | normal =>
        obtain ⟨l1, F1, hh1, hmid, Hm⟩ := hq
        have hcm : ∀ {W' : World} {FF GG : List jP} {o1 o2 : Obj}, Hp b S W' (FF ++ (kK lr o1 :: kK D o2 :: GG)) → Hp b S W' (kK lr o1 :: kK D o2 :: (FF ++ GG)) := fun h => h.perm (by
          refine (List.perm_append_comm).trans ?_
          exact ((List.perm_append_comm).cons _).cons _)
        have Hm1 := hcm Hm
        refine ⟨_, run_beginRound (Hm1.obj s0) (by rw [hrec]), ?_⟩
        have Hm2 := Hm1.putObj s0 (.loop { rec .ready none with state := .busy })
        have Hm3 : Hp b S (w1.putObj lr (.loop { rec .ready none with state := .busy })) (F1 ++ (kK lr (.loop { rec .ready none with state := .busy }) :: kK D (.deferred (some [])) :: G)) := Hm2.perm (by
          refine List.Perm.trans ?_ (List.perm_append_comm)
          exact ((List.perm_append_comm).cons _).cons _)
        refine wpIn_mono (hbody lr pre x l1 F1 _ _ hmid hpre Hm3 a1 hh1) ?_
        have fin : ∀ (jump : Option Code) (W3 : World) (F3 : List jP), Hp b S W3 (F3 ++ (kK lr (.loop { rec .ready none with state := .busy }) :: kK D (.deferred (some [])) :: G)) →
            ∃ W4, (Instr.endRound lr jump).run P W3 = .ok (.bool jump.isNone) W4 ∧ Hp b S W4 ((kK lr (.loop (rec (if jump.isNone then .ready else .done) jump)) :: kK D (.deferred (some [])) :: F3) ++ G) := fun jump W3 F3 h3 => by
          have h4 := hcm h3
          have h5 := run_endRound (P := P) jump (h4.obj s0)
          have h6 := h4.putObj s0 (.loop (rec (if jump.isNone then .ready else .done) jump))
          rw [hrec] at h5 h6 ⊢
          exact ⟨_, h5, h6⟩
        rintro e a3 W3 hp3
        cases e with
        | normal =>
          obtain ⟨F3, hJ3, h3⟩ := hp3
          obtain ⟨W4, hr4, h4⟩ := fin none W3 F3 h3
          exact ⟨_, _, hr4, .inl ⟨Y, _, ⟨F3, Y, hJ3⟩, h4⟩⟩
        | ret =>
          obtain ⟨F3, hJ3, h3⟩ := hp3
          obtain ⟨W4, hr4, h4⟩ := fin (some .ret) W3 F3 h3
          exact ⟨_, _, hr4, .inr ⟨Y, _, ⟨.ret, F3, Y, hJ3⟩, h4⟩⟩
        | exit id =>
          obtain ⟨F3, hJ3, h3⟩ := hp3
          obtain ⟨W4, hr4, h4⟩ := fin (some (.exit id)) W3 F3 h3
          exact ⟨_, _, hr4, .inr ⟨Y, _, ⟨.exit id, F3, Y, hJ3⟩, h4⟩⟩
        | goto t =>
          obtain ⟨F3, hJ3, h3⟩ := hp3
          obtain ⟨W4, hr4, h4⟩ := fin (some (.goto t)) W3 F3 h3
          exact ⟨_, _, hr4, .inr ⟨Y, _, ⟨.goto t, F3, Y, hJ3⟩, h4⟩⟩
        | panic ch => exact hp3.elim
        | outgrown => exact hp3.elim
      | ret => exact hq.elim
      | exit id => exact hq.elim
      | goto t => exact hq.elim
      | panic ch => exact hq.elim
      | outgrown => exact hq.elim
    · have hdf : ({ a with defers := [{ target := .collected D, args := #[] }] ++ a.defers } : Act).defers = (Cx.marked k D).defers := by
        rw [ha.defers]; rfl
      rintro e W2 ⟨⟨v, rfl⟩, (⟨F', ⟨F, rfl, hJ⟩, h2⟩ | ⟨pre, F', ⟨c, F, rfl, hJ⟩, h2⟩)⟩
      · have h3 := run_endLoop (P := P) (h2.obj s0) (by rw [hrec]; simp)
        have h4 := (h2.putObj s0 (.loop { rec .ready none with state := .exhausted })).tail
        refine ⟨none, _, h3.trans (congrArg (fun p => Result.ok p _) (show (rec .ready none).pending = none by rw [hrec])), ?_⟩
        exact hdone D F _ hJ h4 _ ⟨hdf, ha.size, ha.get⟩
      · have h3 := run_endLoop (P := P) (h2.obj s0) (by rw [hrec]; simp)
        have h4 := (h2.putObj s0 (.loop { rec .done (some c) with state := .exhausted })).tail
        refine ⟨some c, _, h3.trans (congrArg (fun p => Result.ok p _) (show (rec .done (some c)).pending = some c by rw [hrec])), ?_⟩
        exact hstop D c pre F _ hJ h4 _ ⟨hdf, ha.size, ha.get⟩
end
def KF (P : Program) (l : List (Nat × Value)) (w : World) : List ResultVar → List Value → Prop
  | [], vs => vs = []
  | .tmp t :: rs, vs => ∃ v us, vs = v :: us ∧ look l t = some v ∧ KF P l w rs us
  | .cell a t :: rs, vs => ∃ v us, vs = v :: us ∧ (∃ p, look l a = some (.pointer (some p)) ∧ (loadVar t p).run P w = .ok v w) ∧ KF P l w rs us
section
variable {P : Program} {n : Cx} {l : List (Nat × Value)} {b w : World} {S : Nat → Prop}
theorem Dy (f : ResultVar → Sem Value) (a : Act) (hf : ∀ t, f (.tmp t) = pure (a.tmps.getD t undef)) (hc : ∀ c t, f (.cell c t) = (do loadVar t (← asAddr (a.tmps.getD c undef)))) (ha : Has n l a) : ∀ (rs : List ResultVar) (vs : List Value), KF P l w rs vs → (rs.mapM f).run P w = .ok vs w
  | [], vs, h => by simp [KF] at h; subst h; rfl
  | .tmp t :: rs, vs, h => by
    obtain ⟨v, us, rfl, h1, h2⟩ := h
    have h3 := Dy f a hf hc ha rs us h2
    have hg := ha.get t v h1
    simp only [List.mapM_cons, Sem.run_bind, Sem.run_pure, Result.andThen_ok, hf, hg, h3]
  | .cell c t :: rs, vs, h => by
    obtain ⟨v, us, rfl, ⟨p, h1, hp⟩, h2⟩ := h
    have h3 := Dy f a hf hc ha rs us h2
    have hg := ha.get c _ h1
    have h4 : (do loadVar t (← asAddr (a.tmps.getD c undef)) : Sem Value).run P w = .ok v w := by
      simp [hg, asAddr, hp]
    simp only [List.mapM_cons, Sem.run_bind, Sem.run_pure, Result.andThen_ok, hc, h3]
    rw [← Sem.run_bind, h4]
    simp only [Result.andThen_ok, h3, Sem.run_bind, Sem.run_pure]
theorem eH {t t' : TypeId} {k g : Nat} {cs : List Value} (hn : NT P t k) (hk : cs.length = k) (hb : Bx w g t' cs) : (loadVar t ⟨g, 0, none⟩).run P w = .ok (.agg cs.toArray) w := by
  have h1 := run_loadCells_list (P := P) w ⟨g, 0, none⟩ cs (fun j u hu => by rw [Addr.add_lit, hb.cell]; simpa using hu)
  rw [hk] at h1
  simp [loadVar, hn.1 w, hn.2 w, h1]
theorem rA {fn : Func} {a : Act} {rs : List ResultVar} {vs : List Value} (ha : Has n l a) (hr : fn.results = rs.toArray) (h : KF P l w rs vs) : (results fn a.tmps).run P w = .ok (nT vs) w := by
  unfold results
  rw [hr, Sem.run_bind, List.mapM_toArray, Sem.run_map, Dy (P := P) (w := w) _ a (fun _ => rfl) (fun _ _ => rfl) ha rs vs h]
  simp only [Result.andThen_ok, Sem.run_pure]
  match vs with
  | [] => simp [nT]
  | [v] => simp [nT]
  | u :: v :: vs => simp [nT]
theorem WP.Uk {k : Nat} {f : FuncId} {fn : Func} {c : Code} {vs : List Value} {R : Value → World → Prop} (hf : P.funcs[f]? = some fn) (hb : fn.body = some c) (hn : fn.ntmps = k) (hle : Nat.ble vs.length k = true)
    (h : WP P (.bare k) c (enum 0 vs) w (bodyPostM Fence.wide 0 P fn (RR R))) : bY P f vs.toArray w R := by
  refine (callsIn_wide (n := 0)).1 (callsIn_of_wp_marks hf hb trivial (h _ ⟨Y, ?_, fun i v hv => ?_⟩))
  · have := Nat.le_of_ble_eq_true hle
    simp [hn]; omega
  · obtain ⟨_, h2⟩ := xB vs 0 i v hv
    have hi : i < vs.length := (List.getElem?_eq_some_iff.1 h2).1
    simp only [Nat.sub_zero] at h2
    have h3 := (List.getElem?_eq_some_iff.1 h2).2
    simp [Array.getElem?_append, hi, h3]
theorem aA.oG {k : Nat} {fn : Func} {R : Value → World → Prop} {rs : List ResultVar} {vs : List Value} (hr : fn.results = rs.toArray) (h : KF P l w rs vs) (hR : R (nT vs) w) : aA (.bare k) (bodyPost P fn (RR R)) .ret l w := by
  intro a ha
  exact ⟨ha.defers.trans Y, _, rA ha hr h, _, Y, hR⟩
theorem aA.aa1 {k D : Nat} {fn : Func} {R : Value → World → Prop} {rs : List ResultVar} {F : List jP} (H : Hp b S w (kK D (.deferred (some [])) :: F)) (hr : fn.results = rs.toArray)
    (h : ∀ w', Hp b S w' F → ∃ vs, KF P l w' rs vs ∧ R (nT vs) w') : aA (.marked k D) (bodyPostM Fence.wide 0 P fn (RR R)) .ret l w := by
  intro a ha
  show LeavesInM Fence.wide 0 P fn a.tmps (RR R) a.defers .returning w
  rw [ha.defers]
  have h1 := run_takeDeferred (P := P) (H.obj s0)
  have h2 := (H.putObj s0 (.deferred none)).tail
  obtain ⟨vs, h3, h4⟩ := h _ h2
  refine ⟨by simp, .inl ⟨D, _, rfl, h1, ?_⟩⟩
  exact ⟨_, rA ha hr h3, _, Y, h4⟩
theorem aA.ah6 {k : Nat} {fn : Func} {R : Value → World → Prop} {rs : List ResultVar} {vs : List Value} (hr : fn.results = rs.toArray) (h : KF P l w rs vs) (hR : R (nT vs) w) : aA (.bare k) (bodyPostM Fence.wide 0 P fn (RR R)) .ret l w := by
  intro a ha
  show LeavesInM Fence.wide 0 P fn a.tmps (RR R) a.defers .returning w
  rw [ha.defers]
  exact ⟨_, rA ha hr h, _, Y, hR⟩
theorem WL.yield {Q : Exit → Act → World → Prop} {K : Act → World → Prop} {ops : Array Oper} {os : List Oper} {ty : TypeId} {pos : String} {jI : Array Edge} {d lr : Nat} {Af : Operand} {args : List Operand} {tys : Array TypeId} {vs : List Value} {R : Ending → World → Prop} {g : Option (Nat × Bool)}
    (hg : match g with | none => True | some (j, aJ) => guardOf ops l j = some (.bool aJ)) (hf : gF l Af = some (.func (.yield lr) #[] #[])) (hargs : yF l args = some vs) (hy : YieldAt Fence.wide 0 P lr vs.toArray w R) (hR : ∀ e w', R e w' → ∃ v, e = .returned v) (hd : Nat.blt d n.size = true) (hro : n.round = none) (hp : n.plain = false)
    (k : ∀ v w', R (.returned v) w' → WL P n ops Q K os ((d, v) :: l) w') : WL P n ops Q K (⟨some d, .call ⟨.value Af, args.toArray, tys⟩, ty, pos, jI, g⟩ :: os) l w := by
  intro a ha
  unfold FL
  have hw : Region.wanted ⟨some d, .call ⟨.value Af, args.toArray, tys⟩, ty, pos, jI, g⟩ (yielded ops a.tmps) = true := by
    match g, hg with
    | none, _ => rfl
    | some (j, aJ), hg => exact lK hg a ha
  rw [if_pos hw]
  unfold NP
  rw [hp]
  obtain ⟨fn, tmps, assign, body, hy1, hy2⟩ := hy
  refine ⟨fun _ _ => trivial, ?_⟩
  have hrun : (execOp a.eval ⟨some d, .call ⟨.value Af, args.toArray, tys⟩, ty, pos, jI, g⟩).run P w = .ok (.round lr fn tmps assign body) w := by
    unfold execOp
    have h1 := ha.eval hf
    have h2 := ha.J9 hargs
    simp only [resolve, h1, Deferred.ofValue, Sem.run_bind, Sem.run_pure, Result.andThen_ok, invoke]
    have : (#[] ++ Array.map a.eval args.toArray : Array Value) = vs.toArray := by
      rw [List.map_toArray, h2]; simp
    rw [this]
    exact hy1
  have hrd : n.fence.round = none := hro
  rw [hrd, Oper.semAt_none, hrun]
  rw [Cx.nA hro]
  refine ⟨fun h => (by cases h), RoundIn.mono hy2 ?_⟩
  rintro e w' hq
  obtain ⟨v, rfl⟩ := hR e w' hq
  exact k v w' hq _ (ha.put hd v)
end
section
variable {P : Program} {n : Cx} {l l' : List (Nat × Value)} {b w : World} {S : Nat → Prop} {ops : Array Oper} {T : World → Prop} {op : Op} {ty : TypeId} {pos : String} {jI : Array Edge} {d j : Nat} {aJ : Bool} {v : Value}
theorem Qi.ev (h : ∀ w, T w → Ev P n l w op v) : Qi P n ops T l ⟨some d, op, ty, pos, jI, none⟩ v := fun a w ha hT => .inl ⟨dY a, .inl (h w hT _ a w rfl ha (Ext.refl w))⟩
theorem Qi.bF (hg : guardOf ops l j = some (.bool aJ)) (h : ∀ w, T w → Ev P n l w op v) : Qi P n ops T l ⟨some d, op, ty, pos, jI, some (j, aJ)⟩ v := fun a w ha hT => .inl ⟨lK hg a ha, .inl (h w hT _ a w rfl ha (Ext.refl w))⟩
theorem Qi.pass {u : Value} (hg : guardOf ops l j = some u) (hv : unlike aJ u = true) : Qi P n ops T l ⟨some d, op, ty, pos, jI, some (j, aJ)⟩ undef := fun a w ha hT => .inr ⟨by
  show (yielded ops a.tmps j == some aJ) = false
  rw [qA ha hg]
  cases u <;> simp [unlike] at hv ⊢
  cases aJ <;> simp_all, rfl⟩
theorem Qi.call {Af : Operand} {args : List Operand} {tys : Array TypeId} {f : FuncId} {caps vs all : List Value} (hf : gF l Af = some (.func (.func f) #[] caps.toArray)) (hargs : yF l args = some vs) (hall : vs ++ caps = all) (Ap : aM P f)
    (hc : ∀ w, T w → bY P f all.toArray w fun u w' => u = v ∧ T w') : Qi P n ops T l ⟨some d, .call ⟨.value Af, args.toArray, tys⟩, ty, pos, jI, none⟩ v := fun a w ha hT => .inl ⟨dY a, .inr ⟨f, all.toArray, sU rfl ha hf hargs hall Ap w, hc w hT⟩⟩
theorem aA.ap {α : Type} {G F1 : List jP} {Mid : List α → α → List (Nat × Value) → List jP → Prop} {pre : List α} {x : α} {l1 : List (Nat × Value)} (hM : Mid pre x l1 F1) (hs : Sb l l1) (H : Hp b S w (F1 ++ G)) : aA n (Zt n b S G Mid pre x) .normal l w := fun a ha => ⟨l1, F1, ha.sb hs, hM, H⟩
theorem aA.rn {α : Type} {G F : List jP} {Jf : List α → List jP → Prop} {Jx : Code → List α → List jP → Prop} {pre : List α} (hJ : Jf pre F) (H : Hp b S w (F ++ G)) : aA n (Uj b S G Jf Jx pre) .normal l w := fun _ _ => ⟨F, hJ, H⟩
theorem aA.rx {α : Type} {G F : List jP} {Jf : List α → List jP → Prop} {Jx : Code → List α → List jP → Prop} {pre : List α} {id : Nat} (hJ : Jx (.exit id) pre F) (H : Hp b S w (F ++ G)) : aA n (Uj b S G Jf Jx pre) (.exit id) l w := fun _ _ => ⟨F, hJ, H⟩
theorem WP.Ul {k : Nat} {f : FuncId} {fn : Func} {c : Code} {y : Value} {caps : List Value} {R : Ending → World → Prop} (hf : P.funcs[f]? = some fn) (hb : fn.body = some c) (hn : fn.ntmps = k) (hle : Nat.ble (y :: caps).length k = true)
    (h : WP P (.bare k) c (enum 0 (y :: caps)) w (bodyPost P fn R)) : CallsIn Fence.wide 0 P f (#[y] ++ caps.toArray) w R := by
  have e : #[y] ++ caps.toArray = (y :: caps).toArray := by simp
  rw [e]
  refine callsIn_wide.2 (calls_of_wp hf hb (wpIn_wide.1 (h _ ⟨Y, ?_, fun i v hv => ?_⟩)))
  · have := Nat.le_of_ble_eq_true hle
    simp [hn] at this ⊢; omega
  · obtain ⟨_, h2⟩ := xB _ 0 i v hv
    have hi : i < (y :: caps).length := (List.getElem?_eq_some_iff.1 h2).1
    simp only [Nat.sub_zero] at h2
    have h3 := (List.getElem?_eq_some_iff.1 h2).2
    have hi' : i < (y :: caps).toArray.size := by simpa using hi
    simp only [Array.getD_eq_getD_getElem?, Array.getElem?_append_left hi', List.getElem?_toArray, h2, Option.getD_some]
theorem aA.Yq {k : Nat} {fn : Func} {R : Ending → World → Prop} (hr : fn.results = #[]) (hR : R (.returned (.tuple #[])) w) : aA (.bare k) (bodyPost P fn R) .ret l w := by
  intro a ha
  exact ⟨ha.defers.trans Y, _, rA (rs := []) (vs := []) ha hr Y, hR⟩
theorem aA.Zu {k : Nat} {fn : Func} {R : Ending → World → Prop} (h : aA (.bare k) (bodyPost P fn R) .ret l w) : aA (.bare k) (bodyPost P fn R) .normal l w := h
end
end Go.Proofs.YtjcklpooaaaglaaGreat
set_option linter.all false
namespace Go.Proofs.YtjcklpooaaaglaaGreat
open Go.RowKit
section
variable {P : Program} {n : Cx} {l : List (Nat × Value)} {b w : World} {S : Nat → Prop} {rs rest : List jP} {Q : Exit → Act → World → Prop} {K : Act → World → Prop} {ops : Array Oper} {os : List Oper} {ty : TypeId} {pos : String} {jI : Array Edge} {d : Nat}
theorem WL.ah7 {o : Oper} {v : Value} (hw : ∀ a, Has n l a → Region.wanted o (yielded ops a.tmps) = true) (hdst : o.dst = none) {R : World → Prop}
    (hrun : ∀ a, Has n l a → ∃ w', (execOp a.eval o).run P w = .ok (.value v) w' ∧ R w') (k : ∀ w', R w' → WL P n ops Q K os l w') : WL P n ops Q K (o :: os) l w := by
  intro a ha
  obtain ⟨w', hr, hR⟩ := hrun a ha
  unfold FL
  rw [if_pos (hw a ha)]
  refine Ao hr ?_
  rw [hdst]
  exact k w' hR a ha
theorem aa2 {α : Type} {τ : Ty α} {t e : TypeId} {bytes c m : Nat} {A : an3} {xs : List α} {x : Operand} (H : Hp b S w rs) (s : nS rs (aQ τ e A c xs) rest) (hx : gF l x = some (.slice (oD A c xs.length τ.k) m (c - xs.length))) (hT : P.underlying t = some (.slice e)) (hz : qC P e τ.k bytes) (hm : xs.length + m ≤ c)
    (k : ∀ w', Hp b S w' (aQ τ e A c xs :: rest) → WL P n ops Q K os l w') : WL P n ops Q K (⟨none, .call ⟨.builtin .clear, #[x], #[t]⟩, ty, pos, jI, none⟩ :: os) l w := by
  obtain ⟨us, hU, hr⟩ := H.raw s
  have hl := hr.1
  obtain ⟨w', hrun, ho', hg, hz'⟩ := Dv (P := P) (ty := ty) (m := m) hT hz hU (by rw [hl]; exact hm)
  rw [hl] at hrun
  refine WL.ah7 (v := .tuple #[]) (fun a _ => dY a) Y (R := fun w2 => w2 = w') (fun a ha => ⟨w', ?_, Y⟩) fun w2 e => ?_
  · unfold execOp
    simp only [resolve, Sem.run_bind, Sem.run_pure, Result.andThen_ok, invoke, builtin, List.map_toArray, List.map_cons, List.map_nil, ha.eval hx, hrun]
  · rw [e]
    exact k w' (H.back (β := Unit) s ho' hr hg (fun g hg' => .inl hg'))
theorem Ev.nilCheck {x : Operand} {p : Addr} (hx : gF l x = some (.pointer (some p))) : Ev P n l w (.nilCheck x) (.pointer (some p)) := fun o a w' ho ha _ => by
  unfold execOp; rw [ho]; simp [ha.eval hx]
end
def pJ {α : Type} (τ : Ty α) (e : TypeId) (L : List (Option Addr × Nat × List α)) : jP where
  W := fun g => ∃ r ∈ L, blk r.1 = some g
  ok := fun S w => (∀ r ∈ L, Own τ e 0 S w r.1 r.2.1 r.2.2) ∧ L.Pairwise fun (p q : Option Addr × Nat × List α) => ∀ g, blk p.1 = some g → blk q.1 ≠ some g
  sub := fun hs h => ⟨fun r hr => (h.1 r hr).low (Nat.le_refl _) hs, h.2⟩
  keep := fun hm h => ⟨fun r hr => (h.1 r hr).keep fun g hg => hm g (hg.imp (fun h => ⟨r, hr, h⟩) id), h.2⟩
def Dz {α : Type} (τ : Ty α) (L : List (Option Addr × Nat × List α)) : jP where
  W := fun _ => False
  ok := fun S w => ∀ r ∈ L, Sl τ S w r.1 r.2.1 r.2.2
  sub := fun hs h => fun r hr => (h r hr).sub hs
  keep := fun hm h => fun r hr => (h r hr).keep fun g hg => hm g (.inr hg)
section
variable {α : Type} {τ : Ty α} {e : TypeId} {b w : World} {S : Nat → Prop} {rs rest sW : List jP} {L : List (Option Addr × Nat × List α)}
theorem Hp.Zv (H : Hp b S w rs) (τ : Ty α) (e : TypeId) : Hp b S w (pJ τ e [] :: rs) :=
  H.new (r := pJ τ e []) (Ext.refl w) (fun g ⟨r, hr, _⟩ => by simp at hr) ⟨fun r hr => by simp at hr, List.Pairwise.nil⟩
theorem Hp.join {r1 r2 r : jP} (H : Hp b S w (r1 :: r2 :: rs)) (hW : ∀ g, r.W g ↔ r1.W g ∨ r2.W g) (hok : ∀ {S' : Nat → Prop}, r1.ok S' w → r2.ok S' w → (∀ g, r1.W g → ¬ r2.W g) → r.ok S' w) : Hp b S w (r :: rs) := by
  have h1 := List.pairwise_cons.1 H.PW
  have h2 := List.pairwise_cons.1 h1.2
  have hs : ∀ g, Rd b S (r1 :: r2 :: rs) w g → Rd b S (r :: rs) w g := by
    rintro g (h | ⟨h3, h4, h5⟩)
    · exact .inl h
    · refine .inr ⟨h3, h4, fun q hq => ?_⟩
      rcases List.mem_cons.1 hq with rfl | hq
      · intro h; rcases (hW g).1 h with h | h
        · exact h5 r1 (by simp) h
        · exact h5 r2 (by simp) h
      · exact h5 q (by simp [hq])
  refine ⟨H.ext, fun q hq => ?_, fun q hq g hg => ?_, List.pairwise_cons.2 ⟨fun q hq g hg => ?_, h2.2⟩⟩
  · rcases List.mem_cons.1 hq with rfl | hq
    · exact q.sub hs (hok (H.ok r1 (by simp)) (H.ok r2 (by simp)) (h1.1 r2 (by simp)))
    · exact q.sub hs (H.ok q (by simp [hq]))
  · rcases List.mem_cons.1 hq with rfl | hq
    · rcases (hW g).1 hg with h | h
      · exact H.lo r1 (by simp) g h
      · exact H.lo r2 (by simp) g h
    · exact H.lo q (by simp [hq]) g hg
  · rcases (hW g).1 hg with h | h
    · exact h1.1 q (by simp [hq]) g h
    · exact h2.1 q hq g h
theorem Hp.split {r1 r2 r : jP} (H : Hp b S w (r :: rs)) (hW : ∀ g, r.W g ↔ r1.W g ∨ r2.W g) (hok : ∀ {S' : Nat → Prop}, r.ok S' w → r1.ok S' w ∧ r2.ok S' w ∧ ∀ g, r1.W g → ¬ r2.W g) : Hp b S w (r1 :: r2 :: rs) := by
  have h1 := List.pairwise_cons.1 H.PW
  have h0 := hok (H.ok r (by simp))
  have hs : ∀ g, Rd b S (r :: rs) w g → Rd b S (r1 :: r2 :: rs) w g := by
    rintro g (h | ⟨h3, h4, h5⟩)
    · exact .inl h
    · refine .inr ⟨h3, h4, fun q hq => ?_⟩
      rcases List.mem_cons.1 hq with rfl | hq
      · exact fun h => h5 r (by simp) ((hW g).2 (.inl h))
      · rcases List.mem_cons.1 hq with rfl | hq
        · exact fun h => h5 r (by simp) ((hW g).2 (.inr h))
        · exact h5 q (by simp [hq])
  refine ⟨H.ext, fun q hq => ?_, fun q hq g hg => ?_, List.pairwise_cons.2 ⟨fun q hq g hg => ?_, List.pairwise_cons.2 ⟨fun q hq g hg => h1.1 q hq g ((hW g).2 (.inr hg)), h1.2⟩⟩⟩
  · rcases List.mem_cons.1 hq with rfl | hq
    · exact q.sub hs h0.1
    · rcases List.mem_cons.1 hq with rfl | hq
      · exact q.sub hs h0.2.1
      · exact q.sub hs (H.ok q (by simp [hq]))
  · rcases List.mem_cons.1 hq with rfl | hq
    · exact H.lo r (by simp) g ((hW g).2 (.inl hg))
    · rcases List.mem_cons.1 hq with rfl | hq
      · exact H.lo r (by simp) g ((hW g).2 (.inr hg))
      · exact H.lo q (by simp [hq]) g hg
  · rcases List.mem_cons.1 hq with rfl | hq
    · exact h0.2.2 g hg
    · exact h1.1 q hq g ((hW g).2 (.inl hg))
theorem Hp.Um {B : an3} {d : Nat} {xs : List α} (H : Hp b S w rs) (s : nS rs (aQ τ e B d xs) rest) (s' : nS rest (pJ τ e L) sW) : Hp b S w (pJ τ e (L ++ [(B, d, xs)]) :: sW) := by
  have H1 : Hp b S w (aQ τ e B d xs :: pJ τ e L :: sW) := (H.sel s).perm (s'.perm.cons _)
  refine H1.join (fun g => ?_) (fun {S'} h1 h2 h3 => ?_)
  · constructor
    · rintro ⟨r, hr, hg⟩
      rcases List.mem_append.1 hr with hr | hr
      · exact .inr ⟨r, hr, hg⟩
      · rw [List.mem_singleton.1 hr] at hg; exact .inl hg
    · rintro (h | ⟨r, hr, hg⟩)
      · exact ⟨(B, d, xs), by simp, h⟩
      · exact ⟨r, by simp [hr], hg⟩
  · refine ⟨fun r hr => ?_, List.pairwise_append.2 ⟨h2.2, List.pairwise_singleton _ _, fun p hp q hq g hg hq' => ?_⟩⟩
    · rcases List.mem_append.1 hr with hr | hr
      · exact h2.1 r hr
      · rw [List.mem_singleton.1 hr]; exact h1
    · rw [List.mem_singleton.1 hq] at hq'
      exact h3 g hq' ⟨p, hp, hg⟩
theorem DC {β : Type} {L : List β} {i : Nat} {x : β} (hx : L[i]? = some x) : L = L.take i ++ x :: L.drop (i + 1) ∧ L.eraseIdx i = L.take i ++ L.drop (i + 1) := by
  have hi := aC hx
  constructor
  · rw [← (List.getElem?_eq_some_iff.1 hx).2, List.getElem_cons_drop, List.take_append_drop]
  · exact List.eraseIdx_eq_take_drop_succ L i
theorem Hp.Un {i : Nat} {B : an3} {d : Nat} {xs : List α} (H : Hp b S w rs) (s : nS rs (pJ τ e L) rest) (hx : L[i]? = some (B, d, xs)) : Hp b S w (aQ τ e B d xs :: pJ τ e (L.eraseIdx i) :: rest) := by
  obtain ⟨e1, e2⟩ := DC hx
  refine (H.sel s).split (fun g => ?_) (fun {S'} h => ?_)
  · constructor
    · rintro ⟨r, hr, hg⟩
      rw [e1] at hr
      rcases List.mem_append.1 hr with hr | hr
      · exact .inr ⟨r, by rw [e2]; simp [hr], hg⟩
      · rcases List.mem_cons.1 hr with rfl | hr
        · exact .inl hg
        · exact .inr ⟨r, by rw [e2]; simp [hr], hg⟩
    · rintro (h | ⟨r, hr, hg⟩)
      · exact ⟨(B, d, xs), List.mem_of_getElem? hx, h⟩
      · rw [e2] at hr
        refine ⟨r, ?_, hg⟩
        rw [e1]
        rcases List.mem_append.1 hr with hr | hr <;> simp [hr]
  · have h1 : ∀ r ∈ L.eraseIdx i, r ∈ L := fun r hr => List.mem_of_mem_eraseIdx hr
    have h2 := h.2
    rw [e1] at h2
    obtain ⟨h3, h4, h5⟩ := List.pairwise_append.1 h2
    obtain ⟨h6, h7⟩ := List.pairwise_cons.1 h4
    refine ⟨h.1 _ (List.mem_of_getElem? hx), ⟨fun r hr => h.1 r (h1 r hr), ?_⟩, ?_⟩
    · rw [e2]; exact List.pairwise_append.2 ⟨h3, h7, fun p hp q hq => h5 p hp q (by simp [hq])⟩
    · rintro g hg ⟨r, hr, hg'⟩
      rw [e2] at hr
      rcases List.mem_append.1 hr with hr | hr
      · exact h5 r hr (B, d, xs) (by simp) g hg' hg
      · exact h6 r hr g hg hg'
theorem Hp.ah8 {B : an3} {d : Nat} {xs : List α} (H : Hp b S w rs) (s : nS rs (Dz τ L) rest) (hx : (B, d, xs) ∈ L) : Sl τ (Rd b S rs w) w B d xs := H.ok (Dz τ L) (s.perm.mem_iff.2 (by simp)) _ hx
theorem Hp.Uo (H : Hp b S w rs) (s : nS rs (pJ τ e L) rest) : Hp b S w (Dz τ L :: rest) := by
  have H1 := H.sel s
  have hd := List.pairwise_cons.1 H1.PW
  have hs : ∀ g, Rd b S (pJ τ e L :: rest) w g → Rd b S (Dz τ L :: rest) w g := by
    rintro g (h | ⟨h3, h4, h5⟩)
    · exact .inl h
    · refine .inr ⟨h3, h4, fun q hq => ?_⟩
      rcases List.mem_cons.1 hq with rfl | hq
      · exact fun h => h
      · exact h5 q (by simp [hq])
  refine ⟨H.ext, fun q hq => ?_, fun q hq g hg => ?_, List.pairwise_cons.2 ⟨fun q hq g hg => hg.elim, hd.2⟩⟩
  · rcases List.mem_cons.1 hq with rfl | hq
    · intro r hr
      have h6 : Own τ e 0 (Rd b S (pJ τ e L :: rest) w) w r.1 r.2.1 r.2.2 := (H1.ok (pJ τ e L) (by simp)).1 r hr
      refine h6.slb (fun g hg => ?_) hs
      have h8 := H1.lo (pJ τ e L) (by simp) g ⟨r, hr, hg⟩
      refine .inr ⟨h8.1, h8.2, fun q hq => ?_⟩
      rcases List.mem_cons.1 hq with rfl | hq
      · exact fun h => h
      · exact hd.1 q hq g ⟨r, hr, hg⟩
    · exact q.sub hs (H1.ok q (by simp [hq]))
  · rcases List.mem_cons.1 hq with rfl | hq
    · exact hg.elim
    · exact H1.lo q (by simp [hq]) g hg
theorem Hp.aa3 {β γ : Type} {σ : Ty β} {ρ : Ty γ} {A : an3} {c : Nat} {xs : List β} {ys : List γ} (H : Hp b S w rs) (s : nS rs (aQ σ e A c xs) rest) (hk : σ.k = ρ.k) (hl : ys.length = xs.length)
    (hR : ∀ (i : Nat) (x : β) (y : γ) (cs : List Value), xs[i]? = some x → ys[i]? = some y → σ.R (Rd b S rs w) w x cs → ρ.R (Rd b S rs w) w y cs) : Hp b S w (aQ ρ e A c ys :: rest) := by
  have hsub : ∀ g, Rd b S rs w g → Rd b S (aQ σ e A c xs :: rest) w g := Rd.perm s.perm
  refine (H.sel s).put (r' := aQ ρ e A c ys) ⟨Y, Y, Y, Nat.le_refl _, fun _ _ _ => Y, Nat.le_refl _⟩ (fun g hg => .inl hg) ?_
  obtain ⟨css, h1, h2, h3⟩ := H.ow s
  refine Own.low (lo := b.heap.size) ⟨css, by rw [h1, hl], fun i y hy => ?_, ?_⟩ (Nat.zero_le _) hsub
  · obtain ⟨x, hx⟩ := get_some (xs := xs) (i := i) (by rw [← hl]; exact aC hy)
    obtain ⟨cs, h4, h5⟩ := h2 i x hx
    exact ⟨cs, h4, hR i x y cs hx hy h5⟩
  · rw [hk, ← hl] at h3
    exact h3
end
end Go.Proofs.YtjcklpooaaaglaaGreat
set_option linter.all false
namespace Go.Proofs.YtjcklpooaaaglaaGreat
open Go.RowKit
theorem Ext.Yr {w w' : World} (e : Ext w w') : ∃ (q : Nat) (os' : Array Obj), w' = Go.Sort.grow (w.drewN q) os' := by
  refine ⟨w'.drawn - w.drawn, w'.heap.extract w.heap.size w'.heap.size, ?_⟩
  obtain ⟨e1, e2, e3, e4, e5, e6⟩ := e
  obtain ⟨h, t, d, o, out⟩ := w
  obtain ⟨h', t', d', o', out'⟩ := w'
  simp only at e1 e2 e3 e4 e5 e6
  subst e1 e2 e3
  have hd : d + (d' - d) = d' := by omega
  have hh : h ++ h'.extract h.size h'.size = h' := by
    apply Array.ext_getElem?
    intro i
    by_cases hi : i < h.size
    · rw [Array.getElem?_append_left hi]; exact (e5 i hi).symm
    · rw [Array.getElem?_append_right (by omega), Array.getElem?_extract]
      by_cases hj : i < h'.size
      · rw [if_pos (by omega)]; congr 1; omega
      · rw [if_neg (by omega), Array.getElem?_eq_none (by omega)]
  simp only [Go.Sort.grow, World.drewN, hd, hh]
theorem DF {α : Type} [Inhabited α] {enc : α → List Value} {k : Nat} (hk : ∀ x, (enc x).length = k) (ys : List α) : (Go.Sort.flatK enc k ys.toArray).toList = (ys.map enc).flatten := by
  apply List.ext_getElem?
  intro j
  have hl : ((ys.map enc).flatten).length = ys.length * k := by
    induction ys with
    | nil => simp
    | cons y ys ih => simp only [List.map_cons, List.flatten_cons, List.length_append, hk, ih, List.length_cons, Nat.add_mul, Nat.one_mul]; omega
  by_cases hj : j < ys.length * k
  · have hk0 : 0 < k := by
      rcases Nat.eq_zero_or_pos k with h | h
      · subst h; omega
      · exact h
    have hlt : j / k < ys.length := (Nat.div_lt_iff_lt_mul hk0).2 hj
    have hm : j % k < k := Nat.mod_lt _ hk0
    obtain ⟨y, hy⟩ := get_some (xs := ys) hlt
    have hyj : ys[j / k]! = y := by rw [List.getElem!_eq_getElem?_getD, hy]; rfl
    have hc : (enc y)[j % k]? = some (enc y)[j % k]! := by
      obtain ⟨u, hu⟩ := get_some (xs := enc y) (i := j % k) (by rw [hk]; exact hm)
      rw [List.getElem!_eq_getElem?_getD, hu]; rfl
    have h2 := za (k := k) (ys.map enc) (by intro cs hcs; obtain ⟨x, _, rfl⟩ := List.mem_map.1 hcs; exact hk x) (j / k) (enc y) (by rw [List.getElem?_map, hy]; rfl) (j % k) _ hc
    rw [Nat.div_add_mod' j k] at h2
    rw [h2, Array.getElem?_toList]
    have hj' : j < (Go.Sort.flatK enc k ys.toArray).size := by rw [Go.Sort.size_flatK]; simpa using hj
    rw [Array.getElem?_eq_getElem hj', ← getElem!_pos _ j hj', Go.Sort.get_flatK enc k ys.toArray j (by simpa using hj)]
    simp [hyj]
  · rw [List.getElem?_eq_none (by rw [Array.length_toList, Go.Sort.size_flatK]; simpa using Nat.le_of_not_lt hj), List.getElem?_eq_none (by rw [hl]; omega)]
theorem KG {w : World} {g : Nat} {cur F : Array Value} {e : TypeId} (hb : w.heap[g]? = some (.cells cur e (0, 0))) (ht : cur.toList.take F.size = F.toList) : Go.Sort.Holds id w g 0 F := by
  intro j hj
  refine ⟨?_, by simp [World.frozen?, hb]⟩
  have h1 : (cur.toList.take F.size)[j]? = F.toList[j]? := by rw [ht]
  rw [List.getElem?_take_of_lt hj] at h1
  simp only [World.cell?, hb, Nat.zero_add]
  simp only [Option.isSome_none, Bool.false_eq_true, if_false]
  rw [← Array.getElem?_toList, h1, Array.getElem?_toList, getElem!_pos F j hj, Array.getElem?_eq_getElem hj]; rfl
theorem heap_sorted {w : World} {g n : Nat} {os : Array Obj} {cur F : Array Value} {e : TypeId} {fr : Nat × Nat} (hb : w.heap[g]? = some (.cells cur e fr)) :
    (Go.Sort.grow (Go.Sort.putRow id (Go.Sort.ahead w n) g 0 F) os).heap[g]? = some (.cells (Go.Sort.putCells id 0 F cur) e fr) := by
  have hg : g < w.heap.size := (Array.getElem?_eq_some_iff.1 hb).1
  rw [Go.Sort.heap_grow_old _ _ (by simpa using hg)]
  simp [Go.Sort.putRow, Go.Sort.mapBlock, Go.Sort.ahead, Array.getElem?_modify, hb, Go.Sort.onCells]
theorem Gs {α : Type} [Inhabited α] {enc : α → Value} {b w : World} {W : Nat → Prop} {g n : Nat} {os : Array Obj} {F : Array α} (hW : W g) : Wr b w (Go.Sort.grow (Go.Sort.putRow enc (Go.Sort.ahead w n) g 0 F) os) W := by
  refine ⟨Y, Y, Y, by simp, fun k hk hne => ?_, ?_⟩
  · rw [Go.Sort.heap_grow_old _ _ (by simpa using hk)]
    have : g ≠ k := fun e => hne (e ▸ hW)
    simp [Go.Sort.putRow, Go.Sort.mapBlock, Go.Sort.ahead, Array.getElem?_modify, this]
  · show w.drawn ≤ w.drawn + n; omega
theorem KH (cur F : Array Value) (h : F.size ≤ cur.size) : (Go.Sort.putCells id 0 F cur).toList.take F.size = F.toList := by
  apply List.ext_getElem?
  intro j
  by_cases hj : j < F.size
  · rw [List.getElem?_take_of_lt hj, Array.getElem?_toList, Array.getElem?_toList]
    simp [Go.Sort.putCells, hj, show j < cur.size by omega]
  · rw [List.getElem?_take_eq_none (by omega), List.getElem?_eq_none (by simp; omega)]
section
variable {P : Program} {b w : World} {S : Nat → Prop} {F : List jP}
theorem Own.Gt {α : Type} {k : Nat} {enc : α → List Value} {pos : 0 < k} {hl : ∀ x, (enc x).length = k} {h1 : ∀ x, ∀ u ∈ enc x, u.oneCell' = true} {e : TypeId} {lo c : Nat} {A : an3} {xs : List α} (h : Own (Ty.flat k enc pos hl h1) e lo S w A c xs) (hne : xs ≠ []) :
    ∃ g cur, A = some ⟨g, 0, none⟩ ∧ lo ≤ g ∧ w.heap[g]? = some (.cells cur e (0, 0)) ∧ xs.length ≤ c ∧ c ≤ maxLen ∧ cur.size = c * k ∧ cur.toList.take (xs.length * k) = (xs.map enc).flatten := by
  obtain ⟨css, c1, c2, c3⟩ := h
  have ah9 : css = xs.map enc := by
    apply List.ext_getElem?
    intro i
    rw [List.getElem?_map]
    cases hi : xs[i]? with
    | none => have := List.getElem?_eq_none_iff.1 hi; rw [List.getElem?_eq_none (by omega)]; rfl
    | some x =>
      obtain ⟨cs, h5, h6⟩ := c2 i x hi
      rw [h5, show cs = enc x from h6]; rfl
  rcases c3.2 with ⟨hv, hn⟩ | ⟨g, cap, cur, hv, hg, hh, hnc, hcm, hcs, ht⟩
  · exact absurd (List.eq_nil_of_length_eq_zero hn) hne
  · injection hv with hA hn' hc'
    subst hA hc'
    exact ⟨g, cur, Y, hg, hh, hnc, hcm, hcs, by rw [← ah9]; exact ht⟩
theorem Own.Gu {α : Type} {k : Nat} {enc : α → List Value} {pos : 0 < k} {hl : ∀ x, (enc x).length = k} {h1 : ∀ x, ∀ u ∈ enc x, u.oneCell' = true} {e : TypeId} {lo c g : Nat} {xs : List α} {cur : Array Value} (hg : lo ≤ g) (hh : w.heap[g]? = some (.cells cur e (0, 0))) (hnc : xs.length ≤ c) (hcm : c ≤ maxLen) (hcs : cur.size = c * k) (ht : cur.toList.take (xs.length * k) = (xs.map enc).flatten) :
    Own (Ty.flat k enc pos hl h1) e lo S w (some ⟨g, 0, none⟩) c xs := by
  have hlen : ∀ ys : List α, ((ys.map enc).flatten).length = ys.length * k := by
    intro ys
    induction ys with
    | nil => simp
    | cons y ys ih => simp only [List.map_cons, List.flatten_cons, List.length_append, hl, ih, List.length_cons, Nat.add_mul, Nat.one_mul]; omega
  exact ⟨xs.map enc, by simp, fun i x hx => ⟨enc x, by rw [List.getElem?_map, hx]; rfl, rfl⟩, hlen xs, .inr ⟨g, c, cur, rfl, hg, hh, hnc, hcm, hcs, ht⟩⟩
theorem Hp.sorted {α : Type} [Inhabited α] {k : Nat} {enc : α → List Value} {pos : 0 < k} {hl : ∀ x, (enc x).length = k} {h1 : ∀ x, ∀ u ∈ enc x, u.oneCell' = true} {e c g n : Nat} {xs ys : List α} {os : Array Obj} {cur : Array Value} (H : Hp b S w (aQ (Ty.flat k enc pos hl h1) e (some ⟨g, 0, none⟩) c xs :: F))
    (hh : w.heap[g]? = some (.cells cur e (0, 0))) (hnc : xs.length ≤ c) (hcm : c ≤ maxLen) (hcs : cur.size = c * k) (hy : ys.length = xs.length) :
    Hp b S (sortWorldK enc k w g 0 n ys.toArray os) (aQ (Ty.flat k enc pos hl h1) e (some ⟨g, 0, none⟩) c ys :: F) := by
  have hsz : (Go.Sort.flatK enc k ys.toArray).size = ys.length * k := by rw [Go.Sort.size_flatK]; simp
  have hle : ys.length * k ≤ c * k := Nat.mul_le_mul_right k (by omega)
  refine H.put (r' := aQ (Ty.flat k enc pos hl h1) e (some ⟨g, 0, none⟩) c ys) (Gs (show (aQ (Ty.flat k enc pos hl h1) e (some ⟨g, 0, none⟩) c xs).W g from Y)) (fun q hq => .inl hq) ?_
  refine Own.Gu (Nat.zero_le _) (heap_sorted hh) (by omega) hcm (by simp [Go.Sort.putCells, hcs]) ?_
  have h2 := KH cur (Go.Sort.flatK enc k ys.toArray) (by rw [hsz, hcs]; exact hle)
  rw [hsz, DF hl] at h2
  exact h2
open Go.Sort in
theorem ad8 {ρ : Go.Shelf.Ren} (L : SlLaysF0.n6 P ρ) {α : Type} [Inhabited α] {k : Nat} {enc : α → List Value} {pos : 0 < k} {hl : ∀ x, (enc x).length = k} {h1 : ∀ x, ∀ u ∈ enc x, u.oneCell' = true} (aE : ∀ w, (isAgg (ρ.t 24)).run P w = .ok true w) (zE : ∀ w, (Go.sizeOf (ρ.t 24)).run P w = .ok k w)
    {cf : α → α → Int} (hO : SWO (ltOf cf)) {g : Nat} {cb : Array Value} {e c : Nat} {A : an3} {xs : List α} (H : Hp b S w (aQ (Ty.flat k enc pos hl h1) e A c xs :: F)) (eg : ∀ args w, (callFunc g args).run P w = .ok (.enter g args) w) (hn : xs.length ≤ 1000000) (hne : xs ≠ [])
    (hcmp : ∀ (w' : World) (ys : List α), ys.length = xs.length → Hp b S w' (aQ (Ty.flat k enc pos hl h1) e A c ys :: F) → ∀ x y : α, bY P g (#[.agg (enc x).toArray, .agg (enc y).toArray] ++ cb) w' fun v w'' => v = .int .i64 (cf x y) ∧ Ext w' w'') :
    bY P (ρ.f 6) #[.slice A xs.length c, .func (.func g) #[] cb] w fun v w' => v = .tuple #[] ∧ ∃ ys : List α, ys.Perm xs ∧ (ys.Pairwise fun x y => ¬ cf y x < 0) ∧ Hp b S w' (aQ (Ty.flat k enc pos hl h1) e A c ys :: F) := by
  obtain ⟨q, cur, rfl, hq, hh, hnc, hcm, hcs, ht⟩ := Own.Gt (H.ow s0) hne
  have hqs : q < w.heap.size := (Array.getElem?_eq_some_iff.1 hh).1
  have hH : Go.Sort.HoldsK enc k w q 0 xs.toArray := by
    refine KG hh ?_
    rw [DF hl, Go.Sort.size_flatK]; simpa using ht
  have hc : CmpLays P g cb enc k cf q 0 xs.toArray.size w := by
    intro m os dk hdk x y
    obtain ⟨ys, rfl⟩ : ∃ ys : List α, dk = ys.toArray := ⟨dk.toList, by simp⟩
    have hy : ys.length = xs.length := by simpa using hdk
    have h3 := hcmp _ ys hy (H.sorted (n := m) (os := os) hh hnc hcm hcs hy) x y
    refine Calls.mono h3 ?_
    rintro e' w' ⟨v, rfl, rfl, ex⟩
    obtain ⟨q', os', hw⟩ := ex.Yr
    exact ⟨Y, q', os', hw⟩
  have h4 := AnyQ.slices_SortFunc L k aE zE enc hl h1 cf hO g cb q 0 c xs.toArray w eg hc hH hqs (by simp; omega)
  simp only [List.size_toArray] at h4
  refine Calls.mono h4 ?_
  rintro e' w' ⟨rfl, d', n, os, hp, hs, rfl⟩
  obtain ⟨ys, rfl⟩ : ∃ ys : List α, d' = ys.toArray := ⟨d'.toList, by simp⟩
  have hsz : ys.length = xs.length := by simpa using hp.1
  refine ⟨_, Y, Y, ys, ?_, ?_, H.sorted hh hnc hcm hcs hsz⟩
  · have := hp.2.2
    simp only [List.size_toArray, List.extract_toArray, List.extract_eq_drop_take, List.drop_zero, Nat.sub_zero] at this
    rwa [List.take_of_length_le (by omega), List.take_of_length_le (Nat.le_refl _)] at this
  · rw [List.pairwise_iff_getElem]
    intro i j hi hj hij hlt
    have := hs i j (Nat.zero_le _) hij (by omega)
    simp only [ltOf] at this
    rw [getElem!_pos ys.toArray j (by simpa using hj), getElem!_pos ys.toArray i (by simpa using hi)] at this
    simp only [List.getElem_toArray] at this
    simp at this
    omega
open Go.Sort in
theorem aa4 {ρ : Go.Shelf.Ren} (L : SlLaysF0.n6 P ρ) {α : Type} {τ : Ty α} {fv : Value} {e c : Nat} {A : an3} {xs : List α} (H : Hp b S w (aQ τ e A c xs :: F)) (hne : xs = []) :
    bY P (ρ.f 6) #[.slice A xs.length c, fv] w fun v w' => v = .tuple #[] ∧ Hp b S w' (aQ τ e A c xs :: F) := by
  subst hne
  refine Calls.mono (AnyF.slices_SortFunc_none L A c fv w) ?_
  rintro e' w' ⟨rfl, rfl⟩
  exact ⟨_, Y, Y, H⟩
theorem Av : ∀ zs : List Int, (zs.map fun x : Int => [Value.int .i64 x]).flatten = zs.map (Value.int .i64)
  | [] => rfl
  | z :: zs => by simp [Av zs]
open Go.Sort in
theorem sorti {ρ : Go.Shelf.Ren} (L : Lays.n189 P ρ) {e c : Nat} {A : an3} {xs : List Int} {hl : ∀ x : Int, ([Value.int .i64 x] : List Value).length = 1} {pos : 0 < 1} {h1 : ∀ x : Int, ∀ u ∈ ([Value.int .i64 x] : List Value), u.oneCell' = true} (H : Hp b S w (aQ (Ty.flat 1 (fun x : Int => [.int .i64 x]) pos hl h1) e A c xs :: F)) (hn : xs.length ≤ 1000000) :
    bY P (ρ.f 189) #[.slice A xs.length c] w fun v w' => v = .tuple #[] ∧ Hp b S w' (aQ (Ty.flat 1 (fun x : Int => [.int .i64 x]) pos hl h1) e A c (xs.mergeSort fun x y => decide (x ≤ y)) :: F) := by
  by_cases hne : xs = []
  · subst hne
    refine Calls.mono (Any.slices_Sort_int_none L A c w) ?_
    rintro e' w' ⟨rfl, rfl⟩
    exact ⟨_, Y, Y, by simpa using H⟩
  · obtain ⟨q, cur, rfl, hq, hh, hnc, hcm, hcs, ht⟩ := Own.Gt (H.ow s0) hne
    have hqs : q < w.heap.size := (Array.getElem?_eq_some_iff.1 hh).1
    have hH : Holds (Value.int .i64) w q 0 xs.toArray := holds_of_blockI hh (by rw [← Av, ← ht, Nat.mul_one])
    refine Calls.mono (Any.slices_Sort_int L q 0 c xs w hH hqs (by omega)) ?_
    rintro e' w' ⟨rfl, n, os, rfl⟩
    have hsz : (xs.mergeSort fun x y => decide (x ≤ y)).length = xs.length := List.length_mergeSort _
    refine ⟨_, Y, Y, H.put (r' := aQ (Ty.flat 1 (fun x : Int => [.int .i64 x]) pos hl h1) e (some ⟨q, 0, none⟩) c (xs.mergeSort fun x y => decide (x ≤ y))) (Gs (show (aQ (Ty.flat 1 (fun x : Int => [.int .i64 x]) pos hl h1) e (some ⟨q, 0, none⟩) c xs).W q from Y)) (fun q hq => .inl hq) ?_⟩
    refine Own.Gu (Nat.zero_le _) (heap_sortedI _ hh) (by omega) hcm (by simp [putCells, hcs]) ?_
    rw [Nat.mul_one, Av]
    exact take_putCellsI cur _ (by rw [hsz, hcs]; omega)
open Go.Sort in
theorem Zw {ρ : Go.Shelf.Ren} (L : SlLaysF0.n6 P ρ) {α : Type} [Inhabited α] {k : Nat} {enc : α → List Value} {pos : 0 < k} {hl : ∀ x, (enc x).length = k} {h1 : ∀ x, ∀ u ∈ enc x, u.oneCell' = true} (aE : ∀ w, (isAgg (ρ.t 24)).run P w = .ok true w) (zE : ∀ w, (Go.sizeOf (ρ.t 24)).run P w = .ok k w)
    {cf : α → α → Int} (hO : SWO (ltOf cf)) {g : Nat} {cb : List Value} {e c : Nat} {A : an3} {xs : List α} (H : Hp b S w (aQ (Ty.flat k enc pos hl h1) e A c xs :: F)) (eg : ∀ args w, (callFunc g args).run P w = .ok (.enter g args) w) (hn : xs.length ≤ 1000000) (hu : ∀ x ∈ xs, ∀ y ∈ xs, ¬ cf x y < 0 → ¬ cf y x < 0 → x = y)
    (hcmp : ∀ (w' : World) (ys : List α), ys.length = xs.length → Hp b S w' (aQ (Ty.flat k enc pos hl h1) e A c ys :: F) → ∀ x y : α, bY P g (([.agg (enc x).toArray, .agg (enc y).toArray] : List Value) ++ cb).toArray w' fun v w'' => v = .int .i64 (cf x y) ∧ Ext w' w'') :
    bY P (ρ.f 6) #[.slice A xs.length c, .func (.func g) #[] cb.toArray] w fun v w' => v = .tuple #[] ∧ Hp b S w' (aQ (Ty.flat k enc pos hl h1) e A c (xs.mergeSort fun x y => !decide (cf y x < 0)) :: F) := by
  by_cases hne : xs = []
  · have h := aa4 L (fv := .func (.func g) #[] cb.toArray) H hne
    refine h.mono ?_
    rintro v w' ⟨rfl, K⟩
    subst hne
    exact ⟨Y, by simpa using K⟩
  · have h := ad8 L aE zE hO H eg hn hne (cb := cb.toArray) (fun w' ys hy K x y => by have := hcmp w' ys hy K x y; simpa using this)
    refine h.mono ?_
    rintro v w' ⟨rfl, ys, hp, hs, K⟩
    have hms : (xs.mergeSort fun x y => !decide (cf y x < 0)).Pairwise fun x y => ¬ cf y x < 0 := by
      have h := List.pairwise_mergeSort (le := fun x y => !decide (cf y x < 0)) (fun a b c h1 h2 => by
        have h3 := hO.ntrans c b a
        simp only [ltOf, Bool.not_eq_true', decide_eq_false_iff_not] at h1 h2 h3 ⊢
        exact h3 h2 h1) (fun a b => by
        by_cases h1 : cf b a < 0
        · by_cases h2 : cf a b < 0
          · have h3 := hO.trans a b a (by simp [ltOf, h2]) (by simp [ltOf, h1])
            rw [hO.irrefl] at h3; cases h3
          · simp [h2]
        · simp [h1]) xs
      exact h.imp (fun {a b} h => by simpa using h)
    have he : ys = xs.mergeSort fun x y => !decide (cf y x < 0) :=
      List.Perm.eq_of_pairwise (le := fun x y => ¬ cf y x < 0) (fun a b ha hb h1 h2 => hu a (hp.mem_iff.1 ha) b (List.mem_mergeSort.1 hb) h2 h1) hs hms (hp.trans (List.mergeSort_perm xs _).symm)
    rw [he] at K
    exact ⟨Y, K⟩
end
end Go.Proofs.YtjcklpooaaaglaaGreat
set_option linter.all false
namespace Go.Proofs.YtjcklpooaaaglaaGreat
open Go.RowKit
instance {g : Nat} {o : Obj} : nK (kK g o) := ⟨fun h => h⟩
section
variable {P : Program} {n : Cx} {l : List (Nat × Value)} {b w : World} {S : Nat → Prop} {rs rest : List jP} {Q : Exit → Act → World → Prop} {K : Act → World → Prop} {ops : Array Oper} {os : List Oper} {ty : TypeId} {pos : String} {jI : Array Edge} {d : Nat}
theorem Ev.neg {t : TypeId} {x : Operand} {a : Int} (hx : gF l x = some (.int .i64 a)) (h : eX (-a)) : Ev P n l w (.unOp .neg t x) (.int .i64 (-a)) := fun o a' w' ho ha _ => by
  unfold execOp; rw [ho]
  have h2 : (Op.unary .neg (.int .i64 a)).run P w' = .ok (.int .i64 (-a)) w' := by
    have h3 : IntKind.i64.wrap (0 - a) = -a := by rw [Int.zero_sub]; exact h.wrap
    have h4 : (Op.unary .neg (.int .i64 a)).run P w' = .ok (.int .i64 (IntKind.i64.wrap (0 - a))) w' := rfl
    rw [h4, h3]
  simp [ha.eval hx, h2]
theorem mkm {t : TypeId} (H : Hp b S w rs) (hd : Nat.blt d n.size = true) (k : ∀ g w', Hp b S w' (kK g (.map #[] 0) :: rs) → WL P n ops Q K os ((d, .map (some g)) :: l) w') : WL P n ops Q K (⟨some d, .makeMap t none, ty, pos, jI, none⟩ :: os) l w :=
  WL.val (v := .map (some w.heap.size)) (fun a _ => dY a) rfl hd (R := fun w2 => w2 = w.alloc (.map #[] 0)) (fun a ha => ⟨_, rfl, rfl⟩) fun w2 e => by
    subst e; exact k _ _ (H.newObj (.map #[] 0))
end
end Go.Proofs.YtjcklpooaaaglaaGreat
set_option linter.all false
namespace Go.Proofs.YtjcklpooaaaglaaGreat
open Go.RowKit
def mO (s : List Int) : Array MapEntry := (s.zipIdx.map fun p => ⟨.int .i64 p.1, .bool true, p.2⟩).toArray
def wE (s : List Int) (z : Int) : List Int := if s.contains z then s else s ++ [z]
theorem Rz (s : List Int) : (mO s).size = s.length := by simp [mO]
theorem RA (s : List Int) (z : Int) : (mO s).push ⟨.int .i64 z, .bool true, s.length⟩ = mO (s ++ [z]) := by
  simp [mO, List.zipIdx_append]
theorem DI {s : List Int} {j : Nat} {e : MapEntry} (h : (mO s).toList[j]? = some e) : ∃ z, s[j]? = some z ∧ e = ⟨.int .i64 z, .bool true, j⟩ := by
  simp only [mO, List.getElem?_map, List.getElem?_zipIdx, Nat.zero_add] at h
  cases hs : s[j]? with
  | none => simp [hs] at h
  | some z => simp [hs] at h; exact ⟨z, rfl, h.symm⟩
theorem KI {s : List Int} {j : Nat} {z : Int} (h : s[j]? = some z) : (mO s).modify j (fun e => { e with key := .int .i64 z, val := .bool true }) = mO s := by
  apply Array.ext_getElem?
  intro i
  rw [Array.getElem?_modify]
  by_cases hij : j = i
  · subst hij
    rw [if_pos rfl]
    have h1 : (mO s)[j]? = some ⟨.int .i64 z, .bool true, j⟩ := by
      rw [← Array.getElem?_toList]; simp [mO, h]
    rw [h1]; rfl
  · rw [if_neg hij]
theorem Gv (s : List Int) : ∀ x ∈ (mO s).toList, MapKept.IsKey (.int .i64) x.key := by
  intro x hx
  obtain ⟨j, hj⟩ := List.getElem?_of_mem hx
  obtain ⟨z, _, rfl⟩ := DI hj
  simp [MapKept.IsKey]
section
variable {P : Program} {n : Cx} {l : List (Nat × Value)} {b w : World} {S : Nat → Prop} {rs rest : List jP} {Q : Exit → Act → World → Prop} {K : Act → World → Prop} {ops : Array Oper} {os : List Oper} {ty : TypeId} {pos : String} {jI : Array Edge} {d : Nat}
theorem unwanted {op : Op} {dd : Option Nat} {j : Nat} {aJ : Bool} {v : Value} (hg : guardOf ops l j = some v) (hv : unlike aJ v = true) (a : Act) (ha : Has n l a) :
    Region.wanted ⟨dd, op, ty, pos, jI, some (j, aJ)⟩ (yielded ops a.tmps) = false := by
  show (yielded ops a.tmps j == some aJ) = false
  rw [qA ha hg]
  cases v <;> simp [unlike] at hv ⊢
  cases aJ <;> simp_all
def tkc (ops : Array Oper) (listed listed' : Array Bool) (i : Nat) : Bool :=
  Region.free .any ops listed i && ((!listed.getD i true && ((ops[i]?).map fun o => o.after.all fun e => !Region.binds .any e || listed.getD e.on false).getD false) && (listed.setIfInBounds i true).toList == listed'.toList)
theorem uy {listed listed' : Array Bool} {i : Nat} (h : tkc ops listed listed' i = true) : Region.free .any ops listed i = true ∧ (Region.ready .any ops listed).contains i = true ∧ listed.setIfInBounds i true = listed' := by
  simp only [tkc, Bool.and_eq_true, beq_iff_eq] at h
  refine ⟨h.1, ?_, Array.toList_inj.1 h.2.2⟩
  rw [List.contains_iff_mem]
  unfold Region.ready
  refine List.mem_filter.2 ⟨?_, by simpa only [Bool.and_eq_true] using h.2.1⟩
  rw [List.mem_range]
  have h1 := h.2.1.2
  cases ho : ops[i]? with
  | none => rw [ho] at h1; simp at h1
  | some o => exact (Array.getElem?_eq_some_iff.1 ho).1
theorem WH.tn {rk : List jP} {fuel : Nat} {listed : Array Bool} (i : Nat) (listed' : Array Bool) {op : Op} {d : Nat} {v : Value} (hs : Region.noSelect ops = true) (hi : ops[i]? = some ⟨some d, op, ty, pos, jI, none⟩) (hf : tkc ops listed listed' i = true)
    (he : ∀ w', Hp b S w' rk → Ev P n l w' op v) (hd : Nat.blt d n.size = true) (hw : Hp b S w rk) (k : WH P n ops K (fun w' => Hp b S w' rk) fuel listed' ((d, v) :: l) w) :
    WH P n ops K (fun w' => Hp b S w' rk) (fuel + 1) listed l w := WH.tk i hi hs (uy hf).1 (uy hf).2.1 he hd hw ((uy hf).2.2 ▸ k)
theorem WH.tng {rk : List jP} {fuel : Nat} {listed : Array Bool} (i : Nat) (listed' : Array Bool) {op : Op} {d j : Nat} {aJ : Bool} {v : Value} (hs : Region.noSelect ops = true) (hi : ops[i]? = some ⟨some d, op, ty, pos, jI, some (j, aJ)⟩) (hg : guardOf ops l j = some (.bool aJ)) (hf : tkc ops listed listed' i = true)
    (he : ∀ w', Hp b S w' rk → Ev P n l w' op v) (hd : Nat.blt d n.size = true) (hw : Hp b S w rk) (k : WH P n ops K (fun w' => Hp b S w' rk) fuel listed' ((d, v) :: l) w) :
    WH P n ops K (fun w' => Hp b S w' rk) (fuel + 1) listed l w := WH.tkg i hi hg hs (uy hf).1 (uy hf).2.1 he hd hw ((uy hf).2.2 ▸ k)
theorem WH.tnp {rk : List jP} {fuel : Nat} {listed : Array Bool} (i : Nat) (listed' : Array Bool) {op : Op} {d j : Nat} {aJ : Bool} {u : Value} (hs : Region.noSelect ops = true) (hi : ops[i]? = some ⟨some d, op, ty, pos, jI, some (j, aJ)⟩) (hg : guardOf ops l j = some u) (hv : unlike aJ u = true) (hf : tkc ops listed listed' i = true)
    (hd : Nat.blt d n.size = true) (hw : Hp b S w rk) (k : WH P n ops K (fun w' => Hp b S w' rk) fuel listed' ((d, undef) :: l) w) :
    WH P n ops K (fun w' => Hp b S w' rk) (fuel + 1) listed l w := fun a ha =>
  wpAnyH_take hi hs (uy hf).1 (uy hf).2.1 (fun _ _ _ h => h) (.inr ⟨unwanted hg hv a ha, rfl⟩) hw ((uy hf).2.2 ▸ k _ (ha.put hd undef))
theorem WH.re2 {Z : World → Prop} {fuel : Nat} {listed : Array Bool} {t : Nat} {u v : Value} (hl : look l t = some u) (e : u = v) (k : WH P n ops K Z fuel listed ((t, v) :: l) w) : WH P n ops K Z fuel listed l w := fun a ha => k a (ha.set hl e)
def LM (n m : Nat) : Array Bool := ((List.range n).map fun i => m.testBit i).toArray
theorem WH.kj {Z : World → Prop} {fuel i : Nat} {listed listed' : Array Bool} {J : List (Nat × Value) → World → Prop} {l' : List (Nat × Value)} (hS : ∀ l w, J l w → WH P n ops K Z fuel listed' l w) (he : ((listed.setIfInBounds i true).toList == listed'.toList) = true) (hk : Z w) (hJ : J l' w) (hs : Sb l l') :
    WL P n.oV ops (Only K) (HK P ops K Z fuel (listed.setIfInBounds i true)) [] l w := by
  have e : listed.setIfInBounds i true = listed' := Array.toList_inj.1 (by simpa using he)
  exact WH.next hk (e ▸ fun a ha => hS l' w hJ a (ha.sb hs))
theorem WH.one {Z : World → Prop} {fuel : Nat} {listed : Array Bool} (i : Nat) {o : Oper} (hr : Region.ready .any ops listed = [i]) (hi : ops[i]? = some o) (h : WL P n.oV ops (Only K) (HK P ops K Z fuel (listed.setIfInBounds i true)) [o] l w) : WH P n ops K Z (fuel + 1) listed l w :=
  WH.all hr (by simp) fun j hj => by obtain rfl := List.mem_singleton.1 hj; exact ⟨o, hi, h⟩
theorem WH.two {Z : World → Prop} {fuel : Nat} {listed : Array Bool} (i j : Nat) {o o' : Oper} (hr : Region.ready .any ops listed = [i, j]) (hi : ops[i]? = some o) (hj : ops[j]? = some o') (h : WL P n.oV ops (Only K) (HK P ops K Z fuel (listed.setIfInBounds i true)) [o] l w) (h' : WL P n.oV ops (Only K) (HK P ops K Z fuel (listed.setIfInBounds j true)) [o'] l w) : WH P n ops K Z (fuel + 1) listed l w :=
  WH.all hr (by simp) fun k hk => by
    rcases List.mem_cons.1 hk with rfl | hk
    · exact ⟨o, hi, h⟩
    · obtain rfl := List.mem_singleton.1 hk; exact ⟨o', hj, h'⟩
theorem Hp.f4 {S' : Nat → Prop} {w' : World} {F : List jP} {r1 r2 r3 r4 : jP} [nK r1] [nK r2] [nK r3] [nK r4] (H : Hp b S w F) (h : Hp w S' w' [r1, r2, r3, r4]) : Hp b S w' (r1 :: r2 :: r3 :: r4 :: F) := H.lift h.re
theorem Hp.z (H : Hp b S w rs) : Hp b S w [] := ⟨H.ext, fun r hr => by simp at hr, fun r hr => by simp at hr, List.Pairwise.nil⟩
theorem Hp.f5 {S' : Nat → Prop} {w' : World} {F : List jP} {r1 r2 r3 r4 r5 : jP} [nK r1] [nK r2] [nK r3] [nK r4] [nK r5] (H : Hp b S w F) (h : Hp w S' w' [r1, r2, r3, r4, r5]) : Hp b S w' (r1 :: r2 :: r3 :: r4 :: r5 :: F) := H.lift h.re
def ddl (xs : List (Array Bool)) : List (Array Bool) := xs.foldl (fun acc x => if acc.contains x then acc else x :: acc) []
theorem Yt (xs : List (Array Bool)) (x : Array Bool) (h : x ∈ xs) : x ∈ ddl xs := by
  have key : ∀ (xs acc : List (Array Bool)), x ∈ acc ∨ x ∈ xs → x ∈ xs.foldl (fun acc x => if acc.contains x then acc else x :: acc) acc := by
    intro xs
    induction xs with
    | nil => intro acc h; simpa using h
    | cons y xs ih =>
      intro acc h
      rw [List.foldl_cons]
      refine ih _ ?_
      rcases h with h | h
      · left; split <;> simp [h]
      · rcases List.mem_cons.1 h with rfl | h
        · left; split
          · rename_i hc; simpa using hc
          · simp
        · exact .inr h
  exact key xs [] (.inr h)
def KJ (ops : Array Oper) (ids : List Nat) (rest : Nat) (full : Array Bool) : Nat → List (Array Bool) → Bool
  | 0, ls => ls.all fun l => l == full && rest == 0
  | f + 1, ls => if ls.all (fun l => l == full) then f + 1 == rest else ls.all (fun l => !(l == full) && !(Region.ready .any ops l).isEmpty && (Region.ready .any ops l).all fun i => ids.contains i) && KJ ops ids rest full f (ddl (ls.flatMap fun l => (Region.ready .any ops l).map fun i => l.setIfInBounds i true))
theorem Gw {ops : Array Oper} {ids : List Nat} {rest : Nat} {full : Array Bool} : ∀ {fuel : Nat} {ls : List (Array Bool)}, KJ ops ids rest full fuel ls = true → ∀ l ∈ ls, rz ops ids rest full fuel l = true
  | 0, ls, h, l, hl => by
    simp only [KJ, List.all_eq_true] at h
    exact h l hl
  | f + 1, ls, h, l, hl => by
    unfold KJ at h
    unfold rz
    split at h
    · rename_i ha
      rw [if_pos (List.all_eq_true.1 ha l hl)]; exact h
    · simp only [Bool.and_eq_true] at h
      have h1 := List.all_eq_true.1 h.1 l hl
      simp only [Bool.and_eq_true, Bool.not_eq_true'] at h1
      rw [if_neg (by rw [h1.1.1]; decide)]
      rw [Bool.and_eq_true]
      refine ⟨by rw [h1.1.2]; rfl, ?_⟩
      rw [List.all_eq_true]
      intro i hi
      rw [Bool.and_eq_true]
      refine ⟨List.all_eq_true.1 h1.2 i hi, Gw h.2 _ (Yt _ _ ?_)⟩
      exact List.mem_flatMap.2 ⟨l, hl, List.mem_map.2 ⟨i, hi, Y⟩⟩
theorem Ur {ops : Array Oper} {ids : List Nat} {rest : Nat} {full : Array Bool} {fuel : Nat} {l : Array Bool} (h : KJ ops ids rest full fuel [l] = true) : rz ops ids rest full fuel l = true := Gw h l (by simp)
theorem WP.sc {Q : Exit → Act → World → Prop} {c : Code} (h : WP P n c l w (Exit.noGoto Q)) (hro : n.round = none := by rfl) : WP P n (.scope c) l w Q := fun a ha => by
  have e : n.fence = Fence.wide := Cx.nA hro
  rw [e]
  refine wpIn_wide.2 (wp_scope_straight ?_)
  have h1 := h a ha
  rw [e] at h1
  exact wpIn_wide.1 h1
theorem WP.lab {Q : Exit → Act → World → Prop} {lb : Nat} (h : aA n Q .normal l w) : WP P n (.label lb) l w Q := fun a ha => wpIn_label (h a ha)
theorem aA.Yu {Q : Exit → Act → World → Prop} (h : aA n Q .normal l w) : aA n (Exit.noGoto Q) .normal l w := fun a ha => h a ha
theorem aA.N7 {Q : Exit → Act → World → Prop} (h : aA n Q .ret l w) : aA n (Exit.noGoto Q) .ret l w := fun a ha => h a ha
theorem Us {t kt et : TypeId} {z : Int} {g : Nat} {s : List Int} (hm : P.underlying t = some (.map kt et)) (hk : P.underlying kt = some (.int .i64)) (hb : w.heap[g]? = some (.map (mO s) s.length)) :
    (Instr.mapUpdate t (.map (some g)) (.int .i64 z) (.bool true)).run P w = .ok () (w.putObj g (.map (mO (wE s z)) (wE s z).length)) := by
  have hz : MapKept.IsKey (.int .i64) (.int .i64 z) := by simp [MapKept.IsKey]
  have h1 : (Instr.checkKey false 10000 kt (.int .i64 z)).run P w = .ok () w := MapKept.run_checkKey (n := 9999) hk hz false
  rcases MapKept.findNow_spec hz (mO s).toList 0 (Gv s) with ⟨hf, hno⟩ | ⟨j, e, hf, hj, he⟩
  · have hc : s.contains z = false := by
      rw [Bool.eq_false_iff, ne_eq, List.contains_iff_mem]
      intro hmem
      obtain ⟨j, hj⟩ := List.getElem?_of_mem hmem
      have h2 : (mO s).toList[j]? = some ⟨.int .i64 z, .bool true, j⟩ := by simp [mO, hj]
      exact hno _ (List.mem_of_getElem? h2) Y
    have ha : wE s z = s ++ [z] := by unfold wE; rw [hc]; rfl
    have h2 := MapKept.run_findKey (P := P) (w := w) hk hf
    unfold Instr.mapUpdate
    simp only [Sem.run_bind, run_underlying hm, Result.andThen_ok, MapKept.run_getObj_map hb, h1, h2, MapKept.run_setObj_map _ hb]
    rw [ha, ← RA, List.length_append]
    rfl
  · obtain ⟨y, hy, rfl⟩ := DI hj
    have hyz : y = z := by injection he
    subst hyz
    have ha : wE s y = s := by unfold wE; rw [if_pos (by rw [List.contains_iff_mem]; exact List.mem_of_getElem? hy)]
    have h2 := MapKept.run_findKey (P := P) (w := w) hk hf
    have h3 : (((mO s)[0 + j]?).map (·.key)).getD (.int .i64 y) = .int .i64 y := by
      rw [← Array.getElem?_toList, Nat.zero_add, hj]; rfl
    unfold Instr.mapUpdate
    simp only [Sem.run_bind, run_underlying hm, Result.andThen_ok, MapKept.run_getObj_map hb, h1, h2, h3, MapKept.run_keyThatStays hz, MapKept.run_setObj_map _ hb]
    rw [ha, Nat.zero_add, KI hy]
    rfl
theorem ad9 {t kt et : TypeId} {m ky vy : Operand} {z : Int} {g : Nat} {s : List Int} (H : Hp b S w rs) (sl : nS rs (kK g (.map (mO s) s.length)) rest) (hx : gF l m = some (.map (some g))) (hkey : gF l ky = some (.int .i64 z)) (hv : gF l vy = some (.bool true))
    (hm : P.underlying t = some (.map kt et)) (hk : P.underlying kt = some (.int .i64))
    (k : ∀ w', Hp b S w' (kK g (.map (mO (wE s z)) (wE s z).length) :: rest) → WL P n ops Q K os l w') : WL P n ops Q K (⟨none, .mapUpdate t m ky vy, ty, pos, jI, none⟩ :: os) l w :=
  WL.unit (fun a _ => dY a) rfl (R := fun w' => w' = w.putObj g (.map (mO (wE s z)) (wE s z).length)) (fun a ha => ⟨_, by
    unfold execOp; simp [ha.eval hx, ha.eval hkey, ha.eval hv, Us hm hk (H.obj sl)], rfl⟩) fun w' e => by
    subst e; exact k _ (H.putObj sl _)
abbrev Ut (g : Nat) (s : List Int) : jP := kK g (.map (mO s) s.length)
theorem mks {t : TypeId} (H : Hp b S w rs) (hd : Nat.blt d n.size = true) (k : ∀ g w', Hp b S w' (Ut g [] :: rs) → WL P n ops Q K os ((d, .map (some g)) :: l) w') : WL P n ops Q K (⟨some d, .makeMap t none, ty, pos, jI, none⟩ :: os) l w := mkm H hd k
theorem Ev.aib {t kt et : TypeId} {m : Operand} {g : Nat} {s : List Int} (H : Hp b S w rs) (sl : nS rs (kK g (.map (mO s) s.length)) rest) (hm : P.underlying t = some (.map kt et)) (hx : gF l m = some (.map (some g))) : Ev P n l w (.call ⟨.builtin .len, #[m], #[t]⟩) (.int .i64 (s.length : Int)) := fun o a w' ho ha ex => by
  have hb : w'.heap[g]? = some (.map (mO s) s.length) := (ex.block g (Array.getElem?_eq_some_iff.1 (H.obj sl)).1).trans (H.obj sl)
  have h1 : (Builtin.len_ #[t] o.type #[.map (some g)]).run P w' = .ok (.int .i64 (s.length : Int)) w' := by
    simp only [Builtin.len_]
    simp [run_underlying hm, MapKept.run_getObj_map hb, Rz, Result.andThen]
    rfl
  unfold execOp; rw [ho]
  simp only [resolve, Sem.run_bind, Sem.run_pure, Result.andThen_ok, invoke, builtin, List.map_toArray, List.map_cons, List.map_nil, ha.eval hx, h1]
end
theorem nk {α : Type} {p : α → Bool} {xs ys : List α} {i j : Nat} {x : α} (hij : i < j) (h1 : ys.take i = (xs.take j).filter p) (h2 : ys.drop j = xs.drop j) (hx : ys[j]? = some x) (hp : p x = true) :
    (ys.set i x).take (i + 1) = (xs.take (j + 1)).filter p ∧ (ys.set i x).drop (j + 1) = xs.drop (j + 1) := by
  have hxs : xs[j]? = some x := by
    have h3 : (ys.drop j)[0]? = (xs.drop j)[0]? := by rw [h2]
    simpa [List.getElem?_drop, hx] using h3.symm
  have hi : i < ys.length := by have := aC hx; omega
  refine ⟨?_, ?_⟩
  · rw [dK (List.getElem?_set_self hi), List.take_set_of_le (Nat.le_refl _), h1, dK hxs, List.filter_append]
    simp [hp]
  · rw [List.drop_set_of_lt (by omega), ← List.drop_drop, h2, List.drop_drop]
theorem nu {α : Type} {p : α → Bool} {xs ys : List α} {i j : Nat} {x : α} (h1 : ys.take i = (xs.take j).filter p) (h2 : ys.drop j = xs.drop j) (hx : ys[j]? = some x) (hp : p x = false) :
    ys.take i = (xs.take (j + 1)).filter p ∧ ys.drop (j + 1) = xs.drop (j + 1) := by
  have hxs : xs[j]? = some x := by
    have h3 : (ys.drop j)[0]? = (xs.drop j)[0]? := by rw [h2]
    simpa [List.getElem?_drop, hx] using h3.symm
  refine ⟨?_, ?_⟩
  · rw [h1, dK hxs, List.filter_append]; simp [hp]
  · rw [← List.drop_drop, h2, List.drop_drop]
end Go.Proofs.YtjcklpooaaaglaaGreat
set_option linter.all false
namespace Go.Proofs.YtjcklpooaaaglaaGreat
open Go.RowKit
section
variable {P : Program} {n : Cx} {l : List (Nat × Value)} {b w : World} {S : Nat → Prop} {rs rest : List jP} {Q : Exit → Act → World → Prop} {K : Act → World → Prop} {ops : Array Oper} {os : List Oper} {ty : TypeId} {pos : String} {jI : Array Edge} {d : Nat}
theorem Hp.was {g : Nat} {o : Obj} (H : Hp b S w rs) (h : b.heap[g]? = some o) : w.heap[g]? = some o := (H.ext.block g (Array.getElem?_eq_some_iff.1 h).1).trans h
theorem RB {s : List Int} {z : Int} (hno : ∀ x ∈ (mO s).toList, x.key ≠ .int .i64 z) : s.contains z = false := by
  rw [Bool.eq_false_iff, ne_eq, List.contains_iff_mem]
  intro hmem
  obtain ⟨j, hj⟩ := List.getElem?_of_mem hmem
  have h2 : (mO s).toList[j]? = some ⟨.int .i64 z, .bool true, j⟩ := by simp [mO, hj]
  exact hno _ (List.mem_of_getElem? h2) Y
theorem RD {t kt et : TypeId} {z : Int} {g : Nat} {s : List Int} (hm : P.underlying t = some (.map kt et)) (hk : P.underlying kt = some (.int .i64)) (hz : ∀ w, (zeroValue et).run P w = .ok (.bool false) w) (hb : w.heap[g]? = some (.map (mO s) s.length)) :
    (Instr.lookup t (.map (some g)) (.int .i64 z) false).run P w = .ok (.bool (s.contains z)) w := by
  have hkz : MapKept.IsKey (.int .i64) (.int .i64 z) := by simp [MapKept.IsKey]
  have h1 : ∀ e, (Instr.checkKey e 10000 kt (.int .i64 z)).run P w = .ok () w := fun e => MapKept.run_checkKey (n := 9999) hk hkz e
  rcases MapKept.findNow_spec hkz (mO s).toList 0 (Gv s) with ⟨hf, hno⟩ | ⟨j, e, hf, hj, he⟩
  · have h2 := MapKept.run_findKey (P := P) (w := w) hk hf
    unfold Instr.lookup
    simp only [Sem.run_bind, run_underlying hm, Result.andThen_ok, MapKept.run_getObj_map hb, Sem.run_pure, h1, h2, hz]
    rw [RB hno]; rfl
  · obtain ⟨y, hy, rfl⟩ := DI hj
    have hyz : y = z := by injection he
    subst hyz
    have h2 := MapKept.run_findKey (P := P) (w := w) hk hf
    unfold Instr.lookup
    simp only [Sem.run_bind, run_underlying hm, Result.andThen_ok, MapKept.run_getObj_map hb, Sem.run_pure, h1, h2]
    rw [show s.contains y = true from List.contains_iff_mem.2 (List.mem_of_getElem? hy)]; rfl
theorem Ev.aea {t kt et : TypeId} {z : Int} {g : Nat} {s : List Int} {m ky : Operand} (hb : w.heap[g]? = some (.map (mO s) s.length)) (hm : P.underlying t = some (.map kt et)) (hk : P.underlying kt = some (.int .i64)) (hz : ∀ w, (zeroValue et).run P w = .ok (.bool false) w) (hx : gF l m = some (.map (some g))) (hy : gF l ky = some (.int .i64 z)) :
    Ev P n l w (.lookup t m ky false) (.bool (s.contains z)) := fun o a w' ho ha ex => by
  have hb' : w'.heap[g]? = some (.map (mO s) s.length) := (ex.block g (Array.getElem?_eq_some_iff.1 hb).1).trans hb
  unfold execOp; rw [ho]
  simp only [ha.eval hx, ha.eval hy]
  simp only [Sem.run_bind, RD (P := P) (s := s) (z := z) hm hk hz hb', Result.andThen_ok, Sem.run_pure]
def pW (s : List (Int × Int)) : Array MapEntry := (s.zipIdx.map fun p => ⟨.int .i64 p.1.1, .int .i64 p.1.2, p.2⟩).toArray
def qV (s : List (Int × Int)) (z : Int) : Int := match s.find? (fun p => decide (p.1 = z)) with | some p => p.2 | none => 0
def uz (s : List (Int × Int)) (z v : Int) : List (Int × Int) := if s.any (fun p => decide (p.1 = z)) then s.map (fun p => if p.1 = z then (z, v) else p) else s ++ [(z, v)]
abbrev Uu (g : Nat) (s : List (Int × Int)) : jP := kK g (.map (pW s) s.length)
theorem DJ {s : List (Int × Int)} {j : Nat} {e : MapEntry} (h : (pW s).toList[j]? = some e) : ∃ p, s[j]? = some p ∧ e = ⟨.int .i64 p.1, .int .i64 p.2, j⟩ := by
  simp only [pW, List.getElem?_map, List.getElem?_zipIdx, Nat.zero_add] at h
  cases hs : s[j]? with
  | none => simp [hs] at h
  | some p => simp [hs] at h; exact ⟨p, rfl, h.symm⟩
theorem Gx (s : List (Int × Int)) : ∀ x ∈ (pW s).toList, MapKept.IsKey (.int .i64) x.key := by
  intro x hx
  obtain ⟨j, hj⟩ := List.getElem?_of_mem hx
  obtain ⟨z, _, rfl⟩ := DJ hj
  simp [MapKept.IsKey]
theorem Gy {s : List (Int × Int)} {z : Int} (hno : ∀ x ∈ (pW s).toList, x.key ≠ .int .i64 z) : ∀ p ∈ s, p.1 ≠ z := by
  intro p hp e
  obtain ⟨j, hj⟩ := List.getElem?_of_mem hp
  have h2 : (pW s).toList[j]? = some ⟨.int .i64 p.1, .int .i64 p.2, j⟩ := by simp [pW, hj]
  exact hno _ (List.mem_of_getElem? h2) (by rw [e])
def l6 (s : List (Int × Int)) : Prop := s.Pairwise fun p q => p.1 ≠ q.1
theorem Yv {s : List (Int × Int)} (hs : l6 s) {p : Int × Int} (hp : p ∈ s) : qV s p.1 = p.2 := by
  induction s with
  | nil => simp at hp
  | cons q s ih =>
    have h1 := List.pairwise_cons.1 hs
    unfold qV
    by_cases e : q.1 = p.1
    · rw [List.find?_cons_of_pos (by simpa using e)]
      rcases List.mem_cons.1 hp with h | h
      · rw [h]
      · exact absurd e (h1.1 p h)
    · rw [List.find?_cons_of_neg (by simpa using e)]
      exact ih h1.2 ((List.mem_cons.1 hp).resolve_left fun h => e (h ▸ Y))
theorem Yw {s : List (Int × Int)} {z : Int} (h : ∀ p ∈ s, p.1 ≠ z) : qV s z = 0 := by
  unfold qV; rw [List.find?_eq_none.2 (fun p hp => by simpa using h p hp)]
theorem RF {t kt et : TypeId} {z : Int} {g : Nat} {s : List (Int × Int)} (hs : l6 s) (hm : P.underlying t = some (.map kt et)) (hk : P.underlying kt = some (.int .i64)) (hz : ∀ w, (zeroValue et).run P w = .ok (.int .i64 0) w) (hb : w.heap[g]? = some (.map (pW s) s.length)) :
    (Instr.lookup t (.map (some g)) (.int .i64 z) false).run P w = .ok (.int .i64 (qV s z)) w := by
  have hkz : MapKept.IsKey (.int .i64) (.int .i64 z) := by simp [MapKept.IsKey]
  have h1 : ∀ e, (Instr.checkKey e 10000 kt (.int .i64 z)).run P w = .ok () w := fun e => MapKept.run_checkKey (n := 9999) hk hkz e
  rcases MapKept.findNow_spec hkz (pW s).toList 0 (Gx s) with ⟨hf, hno⟩ | ⟨j, e, hf, hj, he⟩
  · have h2 := MapKept.run_findKey (P := P) (w := w) hk hf
    unfold Instr.lookup
    simp only [Sem.run_bind, run_underlying hm, Result.andThen_ok, MapKept.run_getObj_map hb, Sem.run_pure, h1, h2, hz]
    rw [Yw (Gy hno)]; rfl
  · obtain ⟨p, hp, rfl⟩ := DJ hj
    have hyz : p.1 = z := by injection he
    subst hyz
    have h2 := MapKept.run_findKey (P := P) (w := w) hk hf
    unfold Instr.lookup
    simp only [Sem.run_bind, run_underlying hm, Result.andThen_ok, MapKept.run_getObj_map hb, Sem.run_pure, h1, h2]
    rw [Yv hs (List.mem_of_getElem? hp)]; rfl
theorem Ev.Zx {t kt et : TypeId} {z : Int} {g : Nat} {s : List (Int × Int)} {m ky : Operand} (hb : w.heap[g]? = some (.map (pW s) s.length)) (hs : l6 s) (hm : P.underlying t = some (.map kt et)) (hk : P.underlying kt = some (.int .i64)) (hz : ∀ w, (zeroValue et).run P w = .ok (.int .i64 0) w) (hx : gF l m = some (.map (some g))) (hy : gF l ky = some (.int .i64 z)) :
    Ev P n l w (.lookup t m ky false) (.int .i64 (qV s z)) := fun o a w' ho ha ex => by
  have hb' : w'.heap[g]? = some (.map (pW s) s.length) := (ex.block g (Array.getElem?_eq_some_iff.1 hb).1).trans hb
  unfold execOp; rw [ho]
  simp only [ha.eval hx, ha.eval hy]
  simp only [Sem.run_bind, RF (P := P) (s := s) (z := z) hs hm hk hz hb', Result.andThen_ok, Sem.run_pure]
theorem RG (s : List (Int × Int)) (z v : Int) : (pW s).push ⟨.int .i64 z, .int .i64 v, s.length⟩ = pW (s ++ [(z, v)]) := by
  simp [pW, List.zipIdx_append]
theorem Uw (s : List (Int × Int)) (z v : Int) : (uz s z v).length = if s.any (fun p => decide (p.1 = z)) then s.length else s.length + 1 := by
  unfold uz; split <;> simp
theorem RH {s : List (Int × Int)} (hs : l6 s) (z v : Int) : l6 (uz s z v) := by
  unfold uz; split
  · refine List.pairwise_map.2 (hs.imp fun {p q} h => ?_)
    split <;> split <;> simp_all
  · rename_i h
    refine List.pairwise_append.2 ⟨hs, List.pairwise_singleton _ _, fun p hp q hq e => h ?_⟩
    rw [List.mem_singleton.1 hq] at e
    exact List.any_eq_true.2 ⟨p, hp, by simpa using e⟩
theorem KL {s : List (Int × Int)} (hs : l6 s) {j : Nat} {p : Int × Int} (h : s[j]? = some p) (v : Int) : (pW s).modify j (fun e => { e with key := .int .i64 p.1, val := .int .i64 v }) = pW (uz s p.1 v) := by
  have ha : uz s p.1 v = s.map (fun q => if q.1 = p.1 then (p.1, v) else q) := if_pos (List.any_eq_true.2 ⟨p, List.mem_of_getElem? h, by simp⟩)
  rw [ha]
  apply Array.ext_getElem?
  intro i
  rw [Array.getElem?_modify]
  have hE : ∀ (t : List (Int × Int)) (k : Nat), (pW t)[k]? = (t[k]?).map fun q => ⟨.int .i64 q.1, .int .i64 q.2, k⟩ := fun t k => by
    rw [← Array.getElem?_toList]; simp only [pW, List.getElem?_map, List.getElem?_zipIdx, Nat.zero_add]
    cases t[k]? <;> rfl
  rw [hE, hE, List.getElem?_map]
  by_cases hij : j = i
  · subst hij
    rw [if_pos rfl, h]; simp
  · rw [if_neg hij]
    cases hi : s[i]? with
    | none => rfl
    | some q =>
      simp only [Option.map_some]
      have hne : q.1 ≠ p.1 := fun e => by
        have hlj := (List.getElem?_eq_some_iff.1 h).1
        have hli := (List.getElem?_eq_some_iff.1 hi).1
        have h1 := List.pairwise_iff_getElem.1 hs
        rcases Nat.lt_or_gt_of_ne hij with h3 | h3
        · have := h1 j i hlj hli h3
          rw [(List.getElem?_eq_some_iff.1 h).2, (List.getElem?_eq_some_iff.1 hi).2] at this; exact this e.symm
        · have := h1 i j hli hlj h3
          rw [(List.getElem?_eq_some_iff.1 h).2, (List.getElem?_eq_some_iff.1 hi).2] at this; exact this e
      rw [if_neg hne]
theorem Ux {t kt et : TypeId} {z v : Int} {g : Nat} {s : List (Int × Int)} (hs : l6 s) (hm : P.underlying t = some (.map kt et)) (hk : P.underlying kt = some (.int .i64)) (hb : w.heap[g]? = some (.map (pW s) s.length)) :
    (Instr.mapUpdate t (.map (some g)) (.int .i64 z) (.int .i64 v)).run P w = .ok () (w.putObj g (.map (pW (uz s z v)) (uz s z v).length)) := by
  have hz : MapKept.IsKey (.int .i64) (.int .i64 z) := by simp [MapKept.IsKey]
  have h1 : (Instr.checkKey false 10000 kt (.int .i64 z)).run P w = .ok () w := MapKept.run_checkKey (n := 9999) hk hz false
  rcases MapKept.findNow_spec hz (pW s).toList 0 (Gx s) with ⟨hf, hno⟩ | ⟨j, e, hf, hj, he⟩
  · have hno' := Gy hno
    have ha : uz s z v = s ++ [(z, v)] := if_neg (by rw [List.any_eq_true]; rintro ⟨p, hp, h⟩; exact hno' p hp (by simpa using h))
    have h2 := MapKept.run_findKey (P := P) (w := w) hk hf
    unfold Instr.mapUpdate
    simp only [Sem.run_bind, run_underlying hm, Result.andThen_ok, MapKept.run_getObj_map hb, h1, h2, MapKept.run_setObj_map _ hb]
    rw [ha, ← RG, List.length_append]
    rfl
  · obtain ⟨p, hp, rfl⟩ := DJ hj
    have hyz : p.1 = z := by injection he
    subst hyz
    have ha : (uz s p.1 v).length = s.length := by rw [Uw, if_pos (List.any_eq_true.2 ⟨p, List.mem_of_getElem? hp, by simp⟩)]
    have h2 := MapKept.run_findKey (P := P) (w := w) hk hf
    have h3 : (((pW s)[0 + j]?).map (·.key)).getD (.int .i64 p.1) = .int .i64 p.1 := by
      rw [← Array.getElem?_toList, Nat.zero_add, hj]; rfl
    unfold Instr.mapUpdate
    simp only [Sem.run_bind, run_underlying hm, Result.andThen_ok, MapKept.run_getObj_map hb, h1, h2, h3, MapKept.run_keyThatStays hz, MapKept.run_setObj_map _ hb]
    rw [ha, Nat.zero_add, KL hs hp]
    rfl
theorem aic {t kt et : TypeId} {m ky vy : Operand} {z v : Int} {g : Nat} {s : List (Int × Int)} (hs : l6 s) (H : Hp b S w rs) (sl : nS rs (Uu g s) rest) (hx : gF l m = some (.map (some g))) (hkey : gF l ky = some (.int .i64 z)) (hv : gF l vy = some (.int .i64 v))
    (hm : P.underlying t = some (.map kt et)) (hk : P.underlying kt = some (.int .i64))
    (k : ∀ w', Hp b S w' (Uu g (uz s z v) :: rest) → WL P n ops Q K os l w') : WL P n ops Q K (⟨none, .mapUpdate t m ky vy, ty, pos, jI, none⟩ :: os) l w :=
  WL.unit (fun a _ => dY a) rfl (R := fun w' => w' = w.putObj g (.map (pW (uz s z v)) (uz s z v).length)) (fun a ha => ⟨_, by
    unfold execOp; simp [ha.eval hx, ha.eval hkey, ha.eval hv, Ux hs hm hk (H.obj sl)], rfl⟩) fun w' e => by
    subst e; exact k _ (H.putObj sl _)
theorem mkc {t : TypeId} (H : Hp b S w rs) (hd : Nat.blt d n.size = true) (k : ∀ g w', Hp b S w' (Uu g [] :: rs) → WL P n ops Q K os ((d, .map (some g)) :: l) w') : WL P n ops Q K (⟨some d, .makeMap t none, ty, pos, jI, none⟩ :: os) l w := mkm H hd k
end
abbrev fz (z : Int) : Nat := FloatKind.f64.nearest z
theorem c01 : FloatKind.f64.format.add 0 4607182418800017408 = some (fb 1) := by decide +kernel
theorem aa5 (m : Nat) : fz (m : Int) = fb m := rfl
theorem DK (neg : Bool) (mag : Nat) (place : Int) : (Ieee.double.read (Ieee.double.nearest neg mag place)).isNaN = false := by
  have key : ∀ (s : Bool) (r : Nat), r ≤ Ieee.double.infRung → (Ieee.double.read (Ieee.double.word s r)).isNaN = false := by
    intro s r hr
    have hI : Ieee.double.infRung < Ieee.double.signWeight := by decide
    have hm : Ieee.double.word s r % Ieee.double.signWeight = r := by
      unfold Ieee.Format.word
      cases s
      · show r % Ieee.double.signWeight = r
        exact Nat.mod_eq_of_lt (by omega)
      · show (Ieee.double.signWeight + r) % Ieee.double.signWeight = r
        rw [Nat.add_mod_left]; exact Nat.mod_eq_of_lt (by omega)
    unfold Ieee.Format.read
    simp only [hm]
    split
    · rfl
    · split
      · rfl
      · split
        · rfl
        · omega
  unfold Ieee.Format.nearest
  split
  · exact key _ _ (Nat.zero_le _)
  · exact key _ _ (Nat.min_le_right _ _)
theorem Yx (z : Int) : ∃ e, FloatKind.f64.format.add (fz z) 0 = some e := by
  have h := DK (decide (z < 0)) z.natAbs 0
  have h0 : Ieee.double.read 0 = .number false 0 Ieee.double.leastPlace := by decide
  show ∃ e, ((Ieee.double.read (fz z)).sum (Ieee.double.read 0)).map Ieee.double.write = some e
  have he : fz z = Ieee.double.nearest (decide (z < 0)) z.natAbs 0 := rfl
  rw [he, h0]
  cases hr : Ieee.double.read (Ieee.double.nearest (decide (z < 0)) z.natAbs 0) with
  | number s m i => exact ⟨_, rfl⟩
  | infinity s => exact ⟨_, rfl⟩
  | nan s f => rw [hr] at h; cases h
def N8 (o : Bool) (z : Int) : Nat := if o = true then (FloatKind.f64.format.add (fz z) 0).getD 0 else fz z
theorem Yy (z : Int) : FloatKind.f64.format.add (fz z) 0 = some (N8 true z) := by
  obtain ⟨e, h⟩ := Yx z
  rw [h]; show some e = some _; unfold N8; rw [if_pos rfl, h]; rfl
theorem aa6 (o : Bool) {m : Nat} (h : m < 130) : N8 o (m : Int) = fb m := by
  unfold N8; split
  · rw [aa5, CX m h]; rfl
  · rfl
theorem aeb : ∀ n, n < 70 → ∀ m, m < 70 → ((FloatKind.f64.format.order (fb n) (fb m) == some .eq) = decide (n = m)) := by decide +kernel
theorem aec : ∀ n, n < 70 → ∀ m, m < 70 → ((FloatKind.f64.format.order (fb n) (fb m) == some .lt) = decide (n < m)) := by decide +kernel
section
variable {P : Program} {n : Cx} {l : List (Nat × Value)} {w : World} {t ty : TypeId} {x y : Operand}
theorem Ev.aie {a b : Nat} (ha : a < 70) (hb : b < 70) (hx : gF l x = some (.float .f64 (fb a))) (hy : gF l y = some (.float .f64 (fb b))) : Ev P n l w (.binOp .neq t x y ty) (.bool (!decide (a = b))) :=
  Ev.binop hx hy (eqGuard_at_float ..) fun w => by
    have := aeb a ha b hb
    simp [binOp, Op.floatCmp, bne, this]
theorem Ev.aed {a b : Nat} (ha : a < 70) (hb : b < 70) (hx : gF l x = some (.float .f64 (fb a))) (hy : gF l y = some (.float .f64 (fb b))) : Ev P n l w (.binOp .lss t x y ty) (.bool (decide (a < b))) :=
  Ev.binop hx hy (eqGuard_at_float ..) fun w => by
    have := aec a ha b hb
    simp [binOp, Op.floatCmp, this]
theorem Ev.aee {d : TypeId} {k : IntKind} {z : Int} (hs : ∃ k, P.underlying t = some k) (hd : P.underlying d = some (.float .f64)) (hx : gF l x = some (.int k z)) : Ev P n l w (.convert t d x) (.float .f64 (fz z)) := fun o ac w' ho ha _ => by
  unfold execOp; rw [ho]
  obtain ⟨k, hk⟩ := hs
  simp [ha.eval hx, convert, run_underlying hk, run_underlying hd, Conv.intToFloat]
theorem Ev.aif {a b : Nat} {ts : Array TypeId} (hx : gF l x = some (.float .f64 a)) (hy : gF l y = some (.float .f64 b)) : Ev P n l w (.call ⟨.builtin .complex, #[x, y], ts⟩) (.complex .f64 a b) := fun o ac w' ho ha _ => by
  unfold execOp; rw [ho]
  simp only [resolve, Sem.run_bind, Sem.run_pure, Result.andThen_ok, invoke, builtin, List.map_toArray, List.map_cons, List.map_nil, ha.eval hx, ha.eval hy]
  rfl
end
end Go.Proofs.YtjcklpooaaaglaaGreat
set_option linter.all false
namespace Go.Proofs.YtjcklpooaaaglaaGreat
open Go.RowKit
section
variable {P : Program} {n : Cx} {l : List (Nat × Value)} {w : World} {t ty : TypeId} {x y : Operand}
theorem Ev.quo {a c : Int} (hx : gF l x = some (.int .i64 a)) (hy : gF l y = some (.int .i64 c)) (hc : c ≠ 0) (h : eX (a.tdiv c)) : Ev P n l w (.binOp .quo t x y ty) (.int .i64 (a.tdiv c)) :=
  Ev.binop hx hy (eqGuard_at_int ..) fun w => by
    have hw := h.wrap
    simp [binOp, Op.intDiv, hc, hw]
theorem Ev.aii {e : TypeId} {len i : Nat} {cs : List Value} {v : Value} (hu : P.underlying t = some (.array len e)) (hs : Size P e 1) (hn : kH P e) (hi : i < len) (hx : gF l x = some (.agg cs.toArray)) (hy : gF l y = some (.int .i64 (i : Int))) (hv : cs[i]? = some v) :
    Ev P n l w (.index t x y) v := fun o a w' ho ha _ => by
  unfold execOp; rw [ho]
  have h1 : (Instr.index t (.agg cs.toArray) (.int .i64 (i : Int))).run P w' = .ok v w' := by
    unfold Instr.index
    simp only [asIntOf, Sem.run_bind, Sem.run_pure, run_underlying hu, Result.andThen_ok]
    rw [if_pos ⟨by omega, by omega⟩]
    simp only [part, asAgg, Sem.run_bind, Sem.run_pure, Result.andThen_ok, hn w', hs w']
    simp [hv]
  simp [ha.eval hx, ha.eval hy, h1]
end
theorem half (i : Nat) : ((i : Int) - 1).tdiv 2 = (((i - 1) / 2 : Nat) : Int) := by
  cases i with
  | zero => rfl
  | succ i =>
    have e : (((i + 1 : Nat) : Int) - 1) = (i : Int) := by omega
    rw [e, Nat.add_sub_cancel]; rfl
end Go.Proofs.YtjcklpooaaaglaaGreat
set_option linter.all false
namespace Go.Proofs.YtjcklpooaaaglaaGreat
open Go.RowKit
section
variable {P : Program} {n : Cx} {l : List (Nat × Value)} {b w : World} {S : Nat → Prop} {rs rest rk : List jP} {Q : Exit → Act → World → Prop} {K : Act → World → Prop} {Z : World → Prop} {ops : Array Oper} {os : List Oper} {ty : TypeId} {pos : String} {jI : Array Edge} {d : Nat} {fuel : Nat} {listed : Array Bool} {x : Operand} {v : Value}
theorem He {ol : List Oper} {id : Nat} {y : Code} (H : Hp b S w rs) (_ : ∀ w', Hp b S w' rs → Hp b S w' rk) (J : List (Nat × Value) → List jP → List (Nat × Value) → World → Prop)
    (h : Region.noSelect ol.toArray = true → Hp b S w.drew rs → WH P n ol.toArray (JK n (J l rk)) (fun w' => Hp b S w' rk) ol.length (List.replicate ol.length false).toArray l w.drew) (k : ∀ l' w', J l rk l' w' → WP P n y l' w' Q)
    (hm : P.follows .mixedOrders = true := by kernel_rfl) (hs : Region.noSelect ol.toArray = true := by kernel_rfl) (hro : n.round = none := by rfl) : WP P n (.seq (.region id ol.toArray true) y) l w Q :=
  WP.held (fun w' => Hp b S w' rk) (J l rk) hm (h hs (H.grow (Ext.refl w).drew)) k hro
theorem Hf {ol : List Oper} {id : Nat} (H : Hp b S w rs) (_ : ∀ w', Hp b S w' rs → Hp b S w' rk) (J : List (Nat × Value) → List jP → List (Nat × Value) → World → Prop)
    (h : Region.noSelect ol.toArray = true → Hp b S w.drew rs → WH P n ol.toArray (JK n (J l rk)) (fun w' => Hp b S w' rk) ol.length (List.replicate ol.length false).toArray l w.drew) (k : ∀ l' w', J l rk l' w' → aA n Q .normal l' w')
    (hm : P.follows .mixedOrders = true := by kernel_rfl) (hs : Region.noSelect ol.toArray = true := by kernel_rfl) (hro : n.round = none := by rfl) : WP P n (.region id ol.toArray true) l w Q :=
  WP.Ub (fun w' => Hp b S w' rk) (J l rk) hm (h hs (H.grow (Ext.refl w).drew)) k hro
theorem Tn (i m : Nat) {op : Op} (hs : Region.noSelect ops = true) (hi : ops[i]? = some ⟨some d, op, ty, pos, jI, none⟩) (he : ∀ w', Hp b S w' rk → Ev P n l w' op v) (hw : Hp b S w rk) (k : WH P n ops K (fun w' => Hp b S w' rk) fuel (LM ops.size m) ((d, v) :: l) w)
    (hf : tkc ops listed (LM ops.size m) i = true := by kernel_rfl) (hd : Nat.blt d n.size = true := by rfl) : WH P n ops K (fun w' => Hp b S w' rk) (fuel + 1) listed l w := WH.tn i _ hs hi hf he hd hw k
theorem Tm (i m : Nat) (hs : Region.noSelect ops = true) (hi : ops[i]? = some ⟨some d, .move x, ty, pos, jI, none⟩) (hx : gF l x = some v) (hw : Hp b S w rk) (k : WH P n ops K (fun w' => Hp b S w' rk) fuel (LM ops.size m) ((d, v) :: l) w)
    (hf : tkc ops listed (LM ops.size m) i = true := by kernel_rfl) (hd : Nat.blt d n.size = true := by rfl) : WH P n ops K (fun w' => Hp b S w' rk) (fuel + 1) listed l w := WH.tn i _ hs hi hf (fun _ _ => Ev.move hx) hd hw k
theorem Ta (i m : Nat) (hs : Region.noSelect ops = true) (hi : ops[i]? = some ⟨some d, .assign x, ty, pos, jI, none⟩) (hx : gF l x = some v) (hw : Hp b S w rk) (k : WH P n ops K (fun w' => Hp b S w' rk) fuel (LM ops.size m) ((d, v) :: l) w)
    (hf : tkc ops listed (LM ops.size m) i = true := by kernel_rfl) (hd : Nat.blt d n.size = true := by rfl) : WH P n ops K (fun w' => Hp b S w' rk) (fuel + 1) listed l w := WH.tn i _ hs hi hf (fun _ _ => Ev.assign hx) hd hw k
theorem Tg (i m : Nat) {op : Op} {j : Nat} {aJ : Bool} (hs : Region.noSelect ops = true) (hi : ops[i]? = some ⟨some d, op, ty, pos, jI, some (j, aJ)⟩) (hg : guardOf ops l j = some (.bool aJ)) (he : ∀ w', Hp b S w' rk → Ev P n l w' op v) (hw : Hp b S w rk) (k : WH P n ops K (fun w' => Hp b S w' rk) fuel (LM ops.size m) ((d, v) :: l) w)
    (hf : tkc ops listed (LM ops.size m) i = true := by kernel_rfl) (hd : Nat.blt d n.size = true := by rfl) : WH P n ops K (fun w' => Hp b S w' rk) (fuel + 1) listed l w := WH.tng i _ hs hi hg hf he hd hw k
theorem Tp (i m : Nat) {op : Op} {j : Nat} {aJ : Bool} {u : Value} (hs : Region.noSelect ops = true) (hi : ops[i]? = some ⟨some d, op, ty, pos, jI, some (j, aJ)⟩) (hg : guardOf ops l j = some u) (hv : unlike aJ u = true) (hw : Hp b S w rk) (k : WH P n ops K (fun w' => Hp b S w' rk) fuel (LM ops.size m) ((d, undef) :: l) w)
    (hf : tkc ops listed (LM ops.size m) i = true := by kernel_rfl) (hd : Nat.blt d n.size = true := by rfl) : WH P n ops K (fun w' => Hp b S w' rk) (fuel + 1) listed l w := WH.tnp i _ hs hi hg hv hf hd hw k
theorem Jn (_ : Hp b S w rk) (J : List (Nat × Value) → List jP → List (Nat × Value) → World → Prop) (f m : Nat) (h : ∀ l' w', J l rk l' w' → WH P n ops K Z f (LM ops.size m) l' w') (k : (∀ l' w', J l rk l' w' → WH P n ops K Z f (LM ops.size m) l' w') → WH P n ops K Z fuel listed l w) : WH P n ops K Z fuel listed l w := k h
theorem Kj {i m : Nat} {J : List (Nat × Value) → World → Prop} {l' : List (Nat × Value)} (hS : ∀ l w, J l w → WH P n ops K Z fuel (LM ops.size m) l w) (hk : Z w) (hJ : J l' w) (hs : Sb l l') (he : ((listed.setIfInBounds i true).toList == (LM ops.size m).toList) = true := by kernel_rfl) :
    WL P n.oV ops (Only K) (HK P ops K Z fuel (listed.setIfInBounds i true)) [] l w := WH.kj hS he hk hJ hs
theorem O1 (i : Nat) {o : Oper} (hi : ops[i]? = some o) (h : WL P n.oV ops (Only K) (HK P ops K Z fuel (listed.setIfInBounds i true)) [o] l w) (hr : Region.ready .any ops listed = [i] := by kernel_rfl) : WH P n ops K Z (fuel + 1) listed l w := WH.one i hr hi h
theorem O2 (i j : Nat) {o o' : Oper} (hi : ops[i]? = some o) (hj : ops[j]? = some o') (h : WL P n.oV ops (Only K) (HK P ops K Z fuel (listed.setIfInBounds i true)) [o] l w) (h' : WL P n.oV ops (Only K) (HK P ops K Z fuel (listed.setIfInBounds j true)) [o'] l w) (hr : Region.ready .any ops listed = [i, j] := by kernel_rfl) : WH P n ops K Z (fuel + 1) listed l w := WH.two i j hr hi hj h h'
theorem Dn {J : List (Nat × Value) → World → Prop} {l' : List (Nat × Value)} (hJ : J l' w) (hs : Sb l l') (hr : Region.ready .any ops listed = [] := by kernel_rfl) : WH P n ops (JK n J) Z fuel listed l w := WH.dn hJ hs hr
theorem Lp {c : Code} (_ : Hp b S w rk) (J : List (Nat × Value) → List jP → Nat → List (Nat × Value) → World → Prop) {m0 : Nat} {l0 : List (Nat × Value)} (h0 : J l rk m0 l0 w) (hs : Sb l l0)
    (hb : ∀ m l' w', J l rk m l' w' → WP P n c l' w' (Exit.then (Again n (J l rk) m) Q)) : WP P n (.loop c) l w Q := WP.lp (J l rk) h0 hs hb
theorem C0 {Af : Operand} {args : List Operand} {tys : Array TypeId} {f : FuncId} {caps vs all : List Value} {u : Value} {S' : Nat → Prop} (H : Hp b S w rs)
    (hf : gF l Af = some (.func (.func f) #[] caps.toArray)) (hargs : yF l args = some vs) (hall : vs ++ caps = all) (Ap : aM P f) (hc : bY P f all.toArray w fun v w' => v = u ∧ Hp w S' w' [])
    (k : ∀ w', Hp b S w' rs → WL P n ops Q K os ((d, u) :: l) w') (hd : Nat.blt d n.size = true := by rfl) : WL P n ops Q K (⟨some d, .call ⟨.value Af, args.toArray, tys⟩, ty, pos, jI, none⟩ :: os) l w :=
  WL.call hf hargs hall Ap hc hd fun v w' hv => hv.1 ▸ k w' (H.c0 hv.2)
end
end Go.Proofs.YtjcklpooaaaglaaGreat
