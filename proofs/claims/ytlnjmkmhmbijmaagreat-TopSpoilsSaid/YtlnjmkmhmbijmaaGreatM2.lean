/- The operations: what each yields, and what it does to memory, over a symbolic frame. -/
import Derived.Test.YtlnjmkmhmbijmaaGreatM1
import Derived.Lib.SliceRun
import Derived.Maps.AppendAt
set_option linter.all false
namespace Go.Proofs.YtlnjmkmhmbijmaaGreat
open Go.RowKit

/-- the operation yields v, in whatever later world, and leaves it as it is -/
def Ev (P : Program) (n : Cx) (l : List (Nat × Value)) (w : World) (op : Op) (v : Value) : Prop :=
  ∀ (o : Oper) (a : Act) (w' : World), o.op = op → Has n l a → Ext w w' → (execOp a.eval o).run P w' = .ok (.value v) w'

/-- what an operation's guard looks at -/
def guardOf (ops : Array Oper) (l : List (Nat × Value)) (j : Nat) : Option Value := ((ops[j]?).bind (·.dst)).bind (look l)
def unlike (want : Bool) : Value → Bool
  | .bool b => b != want
  | _ => true

section
variable {P : Program} {n : Cx} {l l' : List (Nat × Value)} {w w' : World} {Q : Exit → Act → World → Prop} {K : Act → World → Prop} {ops : Array Oper} {os : List Oper}

theorem yielded_of {a : Act} (ha : Has n l a) {j : Nat} {v : Value} (h : guardOf ops l j = some v) : yielded ops a.tmps j = match v with | .bool b => some b | _ => none := by
  unfold guardOf at h
  unfold yielded
  cases hd : (ops[j]?).bind (·.dst) with
  | none => simp [hd] at h
  | some t =>
    simp only [hd, Option.bind_some] at h ⊢
    have hg := ha.get t v h
    simp only [Array.getD_eq_getD_getElem?] at hg
    cases ht : a.tmps[t]? with
    | none =>
      rw [ht] at hg
      simp at hg
      subst hg
      rfl
    | some u =>
      rw [ht] at hg
      simp at hg
      subst hg
      cases u <;> rfl

theorem WL.val {o : Oper} {d : Nat} {v : Value} (hw : ∀ a, Has n l a → Region.wanted o (yielded ops a.tmps) = true) (hdst : o.dst = some d) (hd : Nat.blt d n.size = true) {R : World → Prop}
    (hrun : ∀ a, Has n l a → ∃ w', (execOp a.eval o).run P w = .ok (.value v) w' ∧ R w') (k : ∀ w', R w' → WL P n ops Q K os ((d, v) :: l) w') : WL P n ops Q K (o :: os) l w := by
  intro a ha
  obtain ⟨w', hr, hR⟩ := hrun a ha
  unfold wpK
  rw [if_pos (hw a ha)]
  refine opw_value hr ?_
  rw [hdst]
  exact k w' hR _ (ha.put hd v)
theorem WL.unit {o : Oper} (hw : ∀ a, Has n l a → Region.wanted o (yielded ops a.tmps) = true) (hdst : o.dst = none) {R : World → Prop}
    (hrun : ∀ a, Has n l a → ∃ w', (execOp a.eval o).run P w = .ok .skip w' ∧ R w') (k : ∀ w', R w' → WL P n ops Q K os l w') : WL P n ops Q K (o :: os) l w := by
  intro a ha
  obtain ⟨w', hr, hR⟩ := hrun a ha
  unfold wpK
  rw [if_pos (hw a ha)]
  refine opw_skip hr ?_
  rw [hdst]
  exact k w' hR a ha
theorem wanted_none {op : Op} {ty : TypeId} {pos : String} {aft : Array Edge} {d : Option Nat} (a : Act) : Region.wanted ⟨d, op, ty, pos, aft, none⟩ (yielded ops a.tmps) = true := rfl
theorem wanted_some {op : Op} {ty : TypeId} {pos : String} {aft : Array Edge} {d : Option Nat} {j : Nat} {want : Bool} (hg : guardOf ops l j = some (.bool want)) (a : Act) (ha : Has n l a) :
    Region.wanted ⟨d, op, ty, pos, aft, some (j, want)⟩ (yielded ops a.tmps) = true := by
  show (yielded ops a.tmps j == some want) = true
  rw [yielded_of ha hg]
  simp

theorem WL.ev {op : Op} {ty : TypeId} {pos : String} {aft : Array Edge} {d : Nat} {v : Value} (h : Ev P n l w op v) (hd : Nat.blt d n.size = true) (k : WL P n ops Q K os ((d, v) :: l) w) :
    WL P n ops Q K (⟨some d, op, ty, pos, aft, none⟩ :: os) l w :=
  WL.val (fun a _ => wanted_none a) rfl hd (R := fun w' => w' = w) (fun a ha => ⟨w, h _ a w rfl ha (Ext.refl w), rfl⟩) fun w' e => by subst e; exact k
theorem WL.evg {op : Op} {ty : TypeId} {pos : String} {aft : Array Edge} {d j : Nat} {want : Bool} {v : Value} (hg : guardOf ops l j = some (.bool want)) (h : Ev P n l w op v) (hd : Nat.blt d n.size = true) (k : WL P n ops Q K os ((d, v) :: l) w) :
    WL P n ops Q K (⟨some d, op, ty, pos, aft, some (j, want)⟩ :: os) l w :=
  WL.val (fun a ha => wanted_some hg a ha) rfl hd (R := fun w' => w' = w) (fun a ha => ⟨w, h _ a w rfl ha (Ext.refl w), rfl⟩) fun w' e => by subst e; exact k
theorem WL.pass {op : Op} {ty : TypeId} {pos : String} {aft : Array Edge} {d j : Nat} {want : Bool} {v : Value} (hg : guardOf ops l j = some v) (hv : unlike want v = true) (hd : Nat.blt d n.size = true) (k : WL P n ops Q K os ((d, undef) :: l) w) :
    WL P n ops Q K (⟨some d, op, ty, pos, aft, some (j, want)⟩ :: os) l w := by
  intro a ha
  unfold wpK
  have : Region.wanted ⟨some d, op, ty, pos, aft, some (j, want)⟩ (yielded ops a.tmps) = false := by
    show (yielded ops a.tmps j == some want) = false
    rw [yielded_of ha hg]
    cases v <;> simp [unlike] at hv ⊢
    cases want <;> simp_all
  rw [this]
  exact k _ (ha.put hd undef)

/-- a part of a region that comes to one frame, whichever way it goes -/
theorem WL.cut (m : Nat) (l1 : List (Nat × Value)) (h : WL P n ops Q (fun a' w' => Has n l1 a' ∧ w' = w) (os.take m) l w) (k : WL P n ops Q K (os.drop m) l1 w) : WL P n ops Q K os l w := by
  intro a ha
  have key : ∀ (ys : List Oper) (a : Act) (w0 : World), wpK P n ops Q (fun a' w' => Has n l1 a' ∧ w' = w) ys a w0 → wpK P n ops Q K (ys ++ os.drop m) a w0 := by
    intro ys
    induction ys with
    | nil => rintro a w0 ⟨h1, rfl⟩; exact k a h1
    | cons o ys ih =>
      intro a w0 hh
      simp only [List.cons_append]
      unfold wpK at hh ⊢
      split
      · rename_i hw
        rw [if_pos hw] at hh
        exact opw_mono (fun a w => ih a w) hh
      · rename_i hw
        rw [if_neg hw] at hh
        exact ih _ _ hh
  have := key (os.take m) a w (h a ha)
  rwa [List.take_append_drop] at this
/-- the same where the world may grow -/
theorem WL.cutW (m : Nat) (l1 : List (Nat × Value)) (h : WL P n ops Q (fun a' w' => Has n l1 a' ∧ Ext w w') (os.take m) l w) (k : ∀ w', Ext w w' → WL P n ops Q K (os.drop m) l1 w') : WL P n ops Q K os l w := by
  intro a ha
  have key : ∀ (ys : List Oper) (a : Act) (w0 : World), wpK P n ops Q (fun a' w' => Has n l1 a' ∧ Ext w w') ys a w0 → wpK P n ops Q K (ys ++ os.drop m) a w0 := by
    intro ys
    induction ys with
    | nil => rintro a w0 ⟨h1, h2⟩; exact k w0 h2 a h1
    | cons o ys ih =>
      intro a w0 hh
      simp only [List.cons_append]
      unfold wpK at hh ⊢
      split
      · rename_i hw
        rw [if_pos hw] at hh
        exact opw_mono (fun a w => ih a w) hh
      · rename_i hw
        rw [if_neg hw] at hh
        exact ih _ _ hh
  have := key (os.take m) a w (h a ha)
  rwa [List.take_append_drop] at this
theorem WL.cut_end {l1 : List (Nat × Value)} (hs : Subs l l1) : WL P n ops Q (fun a' w' => Has n l1 a' ∧ w' = w) [] l w := fun _ ha => ⟨ha.subs hs, rfl⟩
theorem WL.cutW_end {l1 : List (Nat × Value)} {w0 : World} (hs : Subs l l1) (he : Ext w0 w) : WL P n ops Q (fun a' w' => Has n l1 a' ∧ Ext w0 w') [] l w := fun _ ha => ⟨ha.subs hs, he⟩
/-- a slot's bool, known now -/
theorem WL.set {t : Nat} {b c : Bool} (hl : look l t = some (.bool b)) (e : b = c) (k : WL P n ops Q K os ((t, .bool c) :: l) w) : WL P n ops Q K os l w :=
  fun a ha => k a (ha.set hl (by rw [e]))
/-- an equal value in a slot -/
theorem WL.re {t : Nat} {u v : Value} (hl : look l t = some u) (e : u = v) (k : WL P n ops Q K os ((t, v) :: l) w) : WL P n ops Q K os l w :=
  fun a ha => k a (ha.set hl e)
theorem WP.re {t : Nat} {u v : Value} {c : Code} (hl : look l t = some u) (e : u = v) (k : WP P n c ((t, v) :: l) w Q) : WP P n c l w Q :=
  fun a ha => k a (ha.set hl e)

/-! ### a region that draws its order, whose operations only read, or call what only grows the world and hands back a value that is known -/
def WQ (P : Program) (n : Cx) (ops : Array Oper) (w : World) (Qa : Act → Prop) (os : List Oper) (l : List (Nat × Value)) : Prop := ∀ a, Has n l a → wpQuiet P ops (fun w' => Ext w w') Qa os a

theorem WP.draw {ol : List Oper} {id : Nat} {y : Code} (hm : P.follows .mixedOrders = true) (hB : Region.lexB .any ol.toArray = true)
    (h : WQ P n ol.toArray w (fun a => ∀ w', Ext w w' → cwp P n y Q a w') ol l) (hro : n.round = none := by rfl) : WP P n (.seq (.region id ol.toArray true) y) l w Q := fun a ha => by
  refine wpIn_seq ?_
  rw [Cx.fence_wide hro]
  refine wpIn_wide.2 (wp_region_quiet (C := fun w' => Ext w w') hm hB ⟨rfl, rfl, rfl, Nat.le_refl _, fun _ _ => rfl, Nat.le_succ _⟩ ?_)
  have := h a ha
  unfold cwp at this
  rw [Cx.fence_wide hro] at this
  exact this
theorem WP.draw_end {ol : List Oper} {id : Nat} (hm : P.follows .mixedOrders = true) (hB : Region.lexB .any ol.toArray = true)
    (h : WQ P n ol.toArray w (fun a => ∀ w', Ext w w' → Q .normal a w') ol l) (hro : n.round = none := by rfl) : WP P n (.region id ol.toArray true) l w Q := fun a ha => by
  rw [Cx.fence_wide hro]
  exact wpIn_wide.2 (wp_region_quiet (C := fun w' => Ext w w') hm hB ⟨rfl, rfl, rfl, Nat.le_refl _, fun _ _ => rfl, Nat.le_succ _⟩ (h a ha))
theorem WQ.done {y : Code} (h : ∀ w', Ext w w' → WP P n y l w' Q) : WQ P n ops w (fun a => ∀ w', Ext w w' → cwp P n y Q a w') [] l := fun a ha w' e => h w' e a ha
theorem WQ.done_end (h : ∀ w', Ext w w' → Pst n Q .normal l w') : WQ P n ops w (fun a => ∀ w', Ext w w' → Q .normal a w') [] l := fun a ha w' e => h w' e a ha
theorem WQ.ev {Qa : Act → Prop} {op : Op} {ty : TypeId} {pos : String} {aft : Array Edge} {d : Nat} {v : Value} (h : Ev P n l w op v) (hd : Nat.blt d n.size = true) (k : WQ P n ops w Qa os ((d, v) :: l)) :
    WQ P n ops w Qa (⟨some d, op, ty, pos, aft, none⟩ :: os) l := by
  intro a ha
  unfold wpQuiet
  rw [if_pos (wanted_none a)]
  refine ⟨v, fun w' e => ?_, k _ (ha.put hd v)⟩
  unfold Oper.quietAt
  rw [h _ a w' rfl ha e]
  exact ⟨rfl, rfl⟩
theorem WQ.evg {Qa : Act → Prop} {op : Op} {ty : TypeId} {pos : String} {aft : Array Edge} {d j : Nat} {want : Bool} {v : Value} (hg : guardOf ops l j = some (.bool want)) (h : Ev P n l w op v) (hd : Nat.blt d n.size = true) (k : WQ P n ops w Qa os ((d, v) :: l)) :
    WQ P n ops w Qa (⟨some d, op, ty, pos, aft, some (j, want)⟩ :: os) l := by
  intro a ha
  unfold wpQuiet
  rw [if_pos (wanted_some hg a ha)]
  refine ⟨v, fun w' e => ?_, k _ (ha.put hd v)⟩
  unfold Oper.quietAt
  rw [h _ a w' rfl ha e]
  exact ⟨rfl, rfl⟩
theorem WQ.pass {Qa : Act → Prop} {op : Op} {ty : TypeId} {pos : String} {aft : Array Edge} {d j : Nat} {want : Bool} {v : Value} (hg : guardOf ops l j = some v) (hv : unlike want v = true) (hd : Nat.blt d n.size = true) (k : WQ P n ops w Qa os ((d, undef) :: l)) :
    WQ P n ops w Qa (⟨some d, op, ty, pos, aft, some (j, want)⟩ :: os) l := by
  intro a ha
  unfold wpQuiet
  have : Region.wanted ⟨some d, op, ty, pos, aft, some (j, want)⟩ (yielded ops a.tmps) = false := by
    show (yielded ops a.tmps j == some want) = false
    rw [yielded_of ha hg]
    cases v <;> simp [unlike] at hv ⊢
    cases want <;> simp_all
  rw [this]
  exact k _ (ha.put hd undef)
theorem WQ.set {Qa : Act → Prop} {t : Nat} {b c : Bool} (hl : look l t = some (.bool b)) (e : b = c) (k : WQ P n ops w Qa os ((t, .bool c) :: l)) : WQ P n ops w Qa os l :=
  fun a ha => k a (ha.set hl (by rw [e]))
theorem WQ.re {Qa : Act → Prop} {t : Nat} {u v : Value} (hl : look l t = some u) (e : u = v) (k : WQ P n ops w Qa os ((t, v) :: l)) : WQ P n ops w Qa os l :=
  fun a ha => k a (ha.set hl e)
theorem WQ.cut {Qa : Act → Prop} (m : Nat) (l1 : List (Nat × Value)) (h : WQ P n ops w (fun a' => Has n l1 a') (os.take m) l) (k : WQ P n ops w Qa (os.drop m) l1) : WQ P n ops w Qa os l := by
  intro a ha
  have key : ∀ (ys : List Oper) (a : Act), wpQuiet P ops (fun w' => Ext w w') (fun a' => Has n l1 a') ys a → wpQuiet P ops (fun w' => Ext w w') Qa (ys ++ os.drop m) a := by
    intro ys
    induction ys with
    | nil => intro a h1; exact k a h1
    | cons o ys ih =>
      intro a hh
      simp only [List.cons_append]
      unfold wpQuiet at hh ⊢
      split
      · rename_i hw
        rw [if_pos hw] at hh
        exact Oper.quiet_mono (fun a => ih a) hh
      · rename_i hw
        rw [if_neg hw] at hh
        exact ih _ hh
  have := key (os.take m) a (h a ha)
  rwa [List.take_append_drop] at this
theorem WQ.cut_end {l1 : List (Nat × Value)} (hs : Subs l l1) : WQ P n ops w (fun a' => Has n l1 a') [] l := fun _ ha => ha.subs hs
end

/-! ### calls -/
def Callable (P : Program) (f : FuncId) : Prop := ∀ (args : Array Value) (w : World), (callFunc f args).run P w = .ok (.enter f args) w

section
variable {P : Program} {n : Cx} {l l' : List (Nat × Value)} {w w' : World} {Q : Exit → Act → World → Prop} {K : Act → World → Prop} {ops : Array Oper} {os : List Oper}

theorem run_callv {a : Act} {o : Oper} {fop : Operand} {args : List Operand} {tys : Array TypeId} (ho : o.op = .call ⟨.value fop, args.toArray, tys⟩) (ha : Has n l a) {f : FuncId} {caps vs all : List Value}
    (hf : evl l fop = some (.func (.func f) #[] caps.toArray)) (hargs : evls l args = some vs) (hall : vs ++ caps = all) (hc : Callable P f) (w : World) : (execOp a.eval o).run P w = .ok (.enter f all.toArray) w := by
  unfold execOp
  rw [ho]
  have h1 := ha.eval hf
  have h2 := ha.evals hargs
  simp only [resolve, h1, Deferred.ofValue, Sem.run_bind, Sem.run_pure, Result.andThen_ok, invoke]
  have : (#[] ++ Array.map a.eval args.toArray ++ caps.toArray : Array Value) = all.toArray := by
    rw [List.map_toArray, h2, ← hall]; simp
  rw [this]
  exact hc _ w

theorem wpK_call {o : Oper} {a : Act} {f : FuncId} {args : Array Value} {R : Value → World → Prop} (hw : Region.wanted o (yielded ops a.tmps) = true) (hrun : (execOp a.eval o).run P w = .ok (.enter f args) w) (hc : Rets P f args w R)
    (k : ∀ v w', R v w' → wpK P n ops Q K os (a.put o.dst v) w') : wpK P n ops Q K (o :: os) a w := by
  unfold wpK
  rw [if_pos hw]
  refine opw_enter hrun (Calls.mono hc ?_)
  rintro e w' ⟨v, rfl, hv⟩
  exact ⟨v, rfl, k v w' hv⟩

theorem WL.call {d : Nat} {ty : TypeId} {pos : String} {aft : Array Edge} {fop : Operand} {args : List Operand} {tys : Array TypeId} {f : FuncId} {caps vs all : List Value} {R : Value → World → Prop}
    (hf : evl l fop = some (.func (.func f) #[] caps.toArray)) (hargs : evls l args = some vs) (hall : vs ++ caps = all) (hcal : Callable P f) (hc : Rets P f all.toArray w R) (hd : Nat.blt d n.size = true)
    (k : ∀ v w', R v w' → WL P n ops Q K os ((d, v) :: l) w') : WL P n ops Q K (⟨some d, .call ⟨.value fop, args.toArray, tys⟩, ty, pos, aft, none⟩ :: os) l w :=
  fun a ha => wpK_call (wanted_none a) (run_callv rfl ha hf hargs hall hcal w) hc fun v w' hv => k v w' hv _ (ha.put hd v)
theorem WL.callg {d j : Nat} {want : Bool} {ty : TypeId} {pos : String} {aft : Array Edge} {fop : Operand} {args : List Operand} {tys : Array TypeId} {f : FuncId} {caps vs all : List Value} {R : Value → World → Prop}
    (hg : guardOf ops l j = some (.bool want))
    (hf : evl l fop = some (.func (.func f) #[] caps.toArray)) (hargs : evls l args = some vs) (hall : vs ++ caps = all) (hcal : Callable P f) (hc : Rets P f all.toArray w R) (hd : Nat.blt d n.size = true)
    (k : ∀ v w', R v w' → WL P n ops Q K os ((d, v) :: l) w') : WL P n ops Q K (⟨some d, .call ⟨.value fop, args.toArray, tys⟩, ty, pos, aft, some (j, want)⟩ :: os) l w :=
  fun a ha => wpK_call (wanted_some hg a ha) (run_callv rfl ha hf hargs hall hcal w) hc fun v w' hv => k v w' hv _ (ha.put hd v)
/-- a call whose result goes nowhere -/
theorem WL.call0 {ty : TypeId} {pos : String} {aft : Array Edge} {fop : Operand} {args : List Operand} {tys : Array TypeId} {f : FuncId} {caps vs all : List Value} {R : Value → World → Prop}
    (hf : evl l fop = some (.func (.func f) #[] caps.toArray)) (hargs : evls l args = some vs) (hall : vs ++ caps = all) (hcal : Callable P f) (hc : Rets P f all.toArray w R)
    (k : ∀ v w', R v w' → WL P n ops Q K os l w') : WL P n ops Q K (⟨none, .call ⟨.value fop, args.toArray, tys⟩, ty, pos, aft, none⟩ :: os) l w :=
  fun a ha => wpK_call (wanted_none a) (run_callv rfl ha hf hargs hall hcal w) hc fun v w' hv => k v w' hv _ ha
/-- in a region that draws: the callee hands back a known value and grows the world, in whatever later world -/
theorem WQ.call {Qa : Act → Prop} {d : Nat} {ty : TypeId} {pos : String} {aft : Array Edge} {fop : Operand} {args : List Operand} {tys : Array TypeId} {f : FuncId} {caps vs all : List Value} {v : Value}
    (hf : evl l fop = some (.func (.func f) #[] caps.toArray)) (hargs : evls l args = some vs) (hall : vs ++ caps = all) (hcal : Callable P f)
    (hc : ∀ w', Ext w w' → Rets P f all.toArray w' fun u w'' => u = v ∧ Ext w' w'') (hd : Nat.blt d n.size = true)
    (k : WQ P n ops w Qa os ((d, v) :: l)) : WQ P n ops w Qa (⟨some d, .call ⟨.value fop, args.toArray, tys⟩, ty, pos, aft, none⟩ :: os) l := by
  intro a ha
  unfold wpQuiet
  rw [if_pos (wanted_none a)]
  refine ⟨v, fun w' e => ?_, k _ (ha.put hd v)⟩
  unfold Oper.quietAt
  rw [run_callv rfl ha hf hargs hall hcal w']
  exact ⟨rfl, Calls.mono (hc w' e) fun x w'' ⟨u, hx, hu, he⟩ => by subst hu; exact ⟨hx, e.trans he⟩⟩
theorem WQ.callg {Qa : Act → Prop} {d j : Nat} {want : Bool} {ty : TypeId} {pos : String} {aft : Array Edge} {fop : Operand} {args : List Operand} {tys : Array TypeId} {f : FuncId} {caps vs all : List Value} {v : Value}
    (hg : guardOf ops l j = some (.bool want))
    (hf : evl l fop = some (.func (.func f) #[] caps.toArray)) (hargs : evls l args = some vs) (hall : vs ++ caps = all) (hcal : Callable P f)
    (hc : ∀ w', Ext w w' → Rets P f all.toArray w' fun u w'' => u = v ∧ Ext w' w'') (hd : Nat.blt d n.size = true)
    (k : WQ P n ops w Qa os ((d, v) :: l)) : WQ P n ops w Qa (⟨some d, .call ⟨.value fop, args.toArray, tys⟩, ty, pos, aft, some (j, want)⟩ :: os) l := by
  intro a ha
  unfold wpQuiet
  rw [if_pos (wanted_some hg a ha)]
  refine ⟨v, fun w' e => ?_, k _ (ha.put hd v)⟩
  unfold Oper.quietAt
  rw [run_callv rfl ha hf hargs hall hcal w']
  exact ⟨rfl, Calls.mono (hc w' e) fun x w'' ⟨u, hx, hu, he⟩ => by subst hu; exact ⟨hx, e.trans he⟩⟩
end

/-! ### what the operations yield -/

def Size (P : Program) (t : TypeId) (k : Nat) : Prop := ∀ w, (sizeOf t).run P w = .ok k w
def NotAgg (P : Program) (t : TypeId) : Prop := ∀ w, (isAgg t).run P w = .ok false w
def Agg (P : Program) (t : TypeId) (k : Nat) : Prop := (∀ w, (isAgg t).run P w = .ok true w) ∧ Size P t k
def FieldAt (P : Program) (s f off : Nat) : Prop := ∀ (a : Addr) (w : World), (Instr.fieldAt s (.pointer (some a)) f).run P w = .ok (.pointer (some (a.add off))) w

section
variable {P : Program} {n : Cx} {l : List (Nat × Value)} {w : World}

theorem elem_is {t e : TypeId} (hu : P.underlying t = some (.slice e)) : P.elem t = e := by simp [Program.elem, hu]
theorem elem_of {t e : TypeId} (hu : P.underlying t = some (.slice e)) : P.underlying t = some (.slice (P.elem t)) := by rw [elem_is hu]; exact hu
theorem Ev.move {x : Operand} {v : Value} (hx : evl l x = some v) : Ev P n l w (.move x) v := fun o a w' ho ha _ => by
  unfold execOp; rw [ho]; simp [ha.eval hx]
theorem Ev.assign {x : Operand} {v : Value} (hx : evl l x = some v) : Ev P n l w (.assign x) v := fun o a w' ho ha _ => by
  unfold execOp; rw [ho]; simp [ha.eval hx]
theorem Ev.pick_t {c x y : Operand} {v : Value} (hc : evl l c = some (.bool true)) (hx : evl l x = some v) : Ev P n l w (.pick c x y) v := fun o a w' ho ha _ => by
  unfold execOp; rw [ho]; simp [ha.eval hx, ha.eval hc, asBool]
theorem Ev.pick_f {c x y : Operand} {v : Value} (hc : evl l c = some (.bool false)) (hx : evl l y = some v) : Ev P n l w (.pick c x y) v := fun o a w' ho ha _ => by
  unfold execOp; rw [ho]; simp [ha.eval hx, ha.eval hc, asBool]
theorem Ev.binop {op : BinOp} {t ty : TypeId} {x y : Operand} {u v r : Value} (hx : evl l x = some u) (hy : evl l y = some v) (hg : eqGuard op t x y u v = pure ()) (hr : ∀ w, (binOp op t u v).run P w = .ok r w) :
    Ev P n l w (.binOp op t x y ty) r := fun o a w' ho ha _ => by
  unfold execOp; rw [ho]; simp [ha.eval hx, ha.eval hy, hg, hr]
section
variable {t ty : TypeId} {x y : Operand} {k : IntKind} {a b : Int}
theorem Ev.lss (hx : evl l x = some (.int k a)) (hy : evl l y = some (.int k b)) : Ev P n l w (.binOp .lss t x y ty) (.bool (decide (a < b))) :=
  Ev.binop hx hy (eqGuard_at_int ..) fun w => by rw [binOp_lss]; rfl
theorem Ev.leq (hx : evl l x = some (.int k a)) (hy : evl l y = some (.int k b)) : Ev P n l w (.binOp .leq t x y ty) (.bool (decide (a ≤ b))) :=
  Ev.binop hx hy (eqGuard_at_int ..) fun w => by rw [binOp_leq]; rfl
theorem Ev.gtr (hx : evl l x = some (.int k a)) (hy : evl l y = some (.int k b)) : Ev P n l w (.binOp .gtr t x y ty) (.bool (decide (b < a))) :=
  Ev.binop hx hy (eqGuard_at_int ..) fun w => by rw [binOp_gtr]; rfl
theorem Ev.geq (hx : evl l x = some (.int k a)) (hy : evl l y = some (.int k b)) : Ev P n l w (.binOp .geq t x y ty) (.bool (decide (b ≤ a))) :=
  Ev.binop hx hy (eqGuard_at_int ..) fun w => by rw [binOp_geq]; rfl
theorem Ev.eql (hx : evl l x = some (.int k a)) (hy : evl l y = some (.int k b)) : Ev P n l w (.binOp .eql t x y ty) (.bool (decide (a = b))) :=
  Ev.binop hx hy (eqGuard_at_int ..) fun w => by rw [binOp_eql]; rfl
theorem Ev.neq (hx : evl l x = some (.int k a)) (hy : evl l y = some (.int k b)) : Ev P n l w (.binOp .neq t x y ty) (.bool (!decide (a = b))) :=
  Ev.binop hx hy (eqGuard_at_int ..) fun w => by rw [binOp_neq]; rfl
theorem Ev.addw (hx : evl l x = some (.int k a)) (hy : evl l y = some (.int k b)) : Ev P n l w (.binOp .add t x y ty) (.int k (k.wrap (a + b))) :=
  Ev.binop hx hy (eqGuard_at_int ..) fun w => by rw [binOp_add]; rfl
theorem Ev.subw (hx : evl l x = some (.int k a)) (hy : evl l y = some (.int k b)) : Ev P n l w (.binOp .sub t x y ty) (.int k (k.wrap (a - b))) :=
  Ev.binop hx hy (eqGuard_at_int ..) fun w => by rw [binOp_sub]; rfl
theorem Ev.mulw (hx : evl l x = some (.int k a)) (hy : evl l y = some (.int k b)) : Ev P n l w (.binOp .mul t x y ty) (.int k (k.wrap (a * b))) :=
  Ev.binop hx hy (eqGuard_at_int ..) fun w => by rw [binOp_mul]; rfl
end
def I64 (x : Int) : Prop := -9223372036854775808 ≤ x ∧ x ≤ 9223372036854775807
theorem I64.mk {x : Int} (h1 : -9223372036854775808 ≤ x) (h2 : x ≤ 9223372036854775807) : I64 x := ⟨h1, h2⟩
theorem I64.wrap {x : Int} (h : I64 x) : IntKind.i64.wrap x = x := IntWalk.i64_in x h
section
variable {t ty : TypeId} {x y : Operand} {a b : Int}
theorem Ev.add (hx : evl l x = some (.int .i64 a)) (hy : evl l y = some (.int .i64 b)) (h : I64 (a + b)) : Ev P n l w (.binOp .add t x y ty) (.int .i64 (a + b)) := by
  have := Ev.addw (P := P) (n := n) (w := w) (t := t) (ty := ty) hx hy; rwa [h.wrap] at this
theorem Ev.sub (hx : evl l x = some (.int .i64 a)) (hy : evl l y = some (.int .i64 b)) (h : I64 (a - b)) : Ev P n l w (.binOp .sub t x y ty) (.int .i64 (a - b)) := by
  have := Ev.subw (P := P) (n := n) (w := w) (t := t) (ty := ty) hx hy; rwa [h.wrap] at this
theorem Ev.mul (hx : evl l x = some (.int .i64 a)) (hy : evl l y = some (.int .i64 b)) (h : I64 (a * b)) : Ev P n l w (.binOp .mul t x y ty) (.int .i64 (a * b)) := by
  have := Ev.mulw (P := P) (n := n) (w := w) (t := t) (ty := ty) hx hy; rwa [h.wrap] at this
theorem Ev.eqb {p q : Bool} (hu : P.underlying t = some .bool) (hx : evl l x = some (.bool p)) (hy : evl l y = some (.bool q)) : Ev P n l w (.binOp .eql t x y ty) (.bool (p == q)) :=
  Ev.binop hx hy (eqGuard_at_bool ..) fun w => run_eql_bool w t p q hu
theorem Ev.neb {p q : Bool} (hu : P.underlying t = some .bool) (hx : evl l x = some (.bool p)) (hy : evl l y = some (.bool q)) : Ev P n l w (.binOp .neq t x y ty) (.bool (!(p == q))) :=
  Ev.binop hx hy (eqGuard_at_bool ..) fun w => run_neq_bool w t p q hu
theorem Ev.eqnil {e : TypeId} {A : Option Addr} {m c m' c' : Nat} (hu : P.underlying t = some (.slice e)) (hx : evl l x = some (.slice A m c)) (hy : evl l y = some (.slice none m' c')) : Ev P n l w (.binOp .eql t x y ty) (.bool A.isNone) :=
  Ev.binop hx hy (eqGuard_at_slice ..) fun w => Lib.run_eql_slice_nil w t e A m c m' c' hu
theorem Ev.not {b : Bool} (hx : evl l x = some (.bool b)) : Ev P n l w (.unOp .not t x) (.bool (!b)) := fun o a w' ho ha _ => by
  unfold execOp; rw [ho]; simp [ha.eval hx]; rfl
theorem Ev.extract {vs : List Value} {i : Nat} {v : Value} (hx : evl l x = some (.tuple vs.toArray)) (hi : vs[i]? = some v) : Ev P n l w (.extract x i) v := fun o a w' ho ha _ => by
  unfold execOp; rw [ho]; simp [ha.eval hx, Instr.extract, hi]
theorem Ev.func {f : FuncId} {caps : List Operand} {vs : List Value} (hx : evls l caps = some vs) : Ev P n l w (.makeFunc (.func f) #[] caps.toArray) (.func (.func f) #[] vs.toArray) := fun o a w' ho ha _ => by
  have h2 := ha.evals hx
  unfold execOp; rw [ho]
  simp only [List.map_toArray, h2]
  rfl
theorem Ev.len {e : TypeId} {A : Option Addr} {m c : Nat} (hu : P.underlying t = some (.slice e)) (hx : evl l x = some (.slice A m c)) : Ev P n l w (.call ⟨.builtin .len, #[x], #[t]⟩) (.int .i64 (m : Int)) := fun o a w' ho ha _ => by
  unfold execOp; rw [ho]
  simp only [resolve, Sem.run_bind, Sem.run_pure, Result.andThen_ok, invoke, builtin, List.map_toArray, List.map_cons, List.map_nil, ha.eval hx, run_len_slice w' t o.type A m c (elem_of hu)]
  rfl
theorem Ev.cap {e : TypeId} {A : Option Addr} {m c : Nat} (hu : P.underlying t = some (.slice e)) (hx : evl l x = some (.slice A m c)) : Ev P n l w (.call ⟨.builtin .cap, #[x], #[t]⟩) (.int .i64 (c : Int)) := fun o a w' ho ha _ => by
  unfold execOp; rw [ho]
  simp only [resolve, Sem.run_bind, Sem.run_pure, Result.andThen_ok, invoke, builtin, List.map_toArray, List.map_cons, List.map_nil, ha.eval hx, run_cap_slice w' t o.type A m c (elem_of hu)]
  rfl
theorem Ev.index {e : TypeId} {k : Nat} {A : Option Addr} {m c i : Nat} {kd : IntKind} {z : Int} (hu : P.underlying t = some (.slice e)) (hs : Size P e k) (hx : evl l x = some (.slice A m c)) (hy : evl l y = some (.int kd z)) (hz : z = (i : Int)) (hi : i < m) (hA : A = some (adr A)) :
    Ev P n l w (.indexAddr t x y) (.pointer (some ((adr A).add (i * k)))) := fun o a w' ho ha _ => by
  unfold execOp; rw [ho]
  have h1 : (Instr.indexAt t (.slice A m c) (.int kd z)).run P w' = .ok (.pointer (some ((adr A).add (i * k)))) w' := by
    rw [hA, run_indexAt_slice w' t _ m c kd z (elem_of hu), hz, if_pos ⟨by omega, by omega⟩, elem_is hu, hs w']
    simp [adr]
  simp [ha.eval hx, ha.eval hy, h1]
theorem Ev.field {s f off : Nat} {p q : Addr} (hf : FieldAt P s f off) (hx : evl l x = some (.pointer (some p))) (hq : p.add off = q) : Ev P n l w (.fieldAddr s x f) (.pointer (some q)) := fun o a w' ho ha _ => by
  unfold execOp; rw [ho]; simp [ha.eval hx, hf p w', hq]
theorem Ev.loadCell {v : Value} {p : Addr} (hn : NotAgg P t) (hx : evl l x = some (.pointer (some p))) (hc : w.cell? p = some v) : Ev P n l w (.load t x) v := fun o a w' ho ha e => by
  unfold execOp; rw [ho]
  simp [ha.eval hx, Instr.loadAt, Instr.sureAddr, loadVar, hn w', run_load, e.cell hc]
theorem Ev.loadRow {k : Nat} {cs : List Value} {p : Addr} (hn : Agg P t k) (hx : evl l x = some (.pointer (some p))) (hk : cs.length = k) (hc : ∀ j u, cs[j]? = some u → w.cell? (p.add j) = some u) : Ev P n l w (.load t x) (.agg cs.toArray) := fun o a w' ho ha e => by
  unfold execOp; rw [ho]
  have h1 := run_loadCells_list (P := P) w' p cs (fun j u hu => e.cell (hc j u hu))
  rw [hk] at h1
  simp [ha.eval hx, Instr.loadAt, Instr.sureAddr, loadVar, hn.1 w', hn.2 w', h1]
theorem Ev.loadBox {k : Nat} {cs : List Value} {g : Nat} {t' : TypeId} (hn : Agg P t k) (hx : evl l x = some (.pointer (some ⟨g, 0, none⟩))) (hk : cs.length = k) (hb : Bx w g t' cs) : Ev P n l w (.load t x) (.agg cs.toArray) :=
  Ev.loadRow hn hx hk fun j u hu => by
    have : (⟨g, 0, none⟩ : Addr).add j = ⟨g, j, none⟩ := by rw [Addr.add_lit]; simp
    rw [this, hb.cell]; exact hu
theorem Ev.loadBoxPart {k off : Nat} {cs cs' : List Value} {g : Nat} {t' : TypeId} (hn : Agg P t k) (hx : evl l x = some (.pointer (some ⟨g, off, none⟩))) (hk : cs'.length = k) (hb : Bx w g t' cs) (hs : (cs.drop off).take cs'.length = cs') : Ev P n l w (.load t x) (.agg cs'.toArray) :=
  Ev.loadRow hn hx hk fun j u hu => by
    have h1 : (⟨g, off, none⟩ : Addr).add j = ⟨g, off + j, none⟩ := by rw [Addr.add_lit]
    have h2 : j < cs'.length := (List.getElem?_eq_some_iff.1 hu).1
    rw [h1, hb.cell]
    rw [← hs, List.getElem?_take, if_pos h2, List.getElem?_drop] at hu
    exact hu
theorem Ev.loadBoxCell {v : Value} {cs : List Value} {g i : Nat} {t' : TypeId} (hn : NotAgg P t) (hx : evl l x = some (.pointer (some ⟨g, i, none⟩))) (hb : Bx w g t' cs) (hi : cs[i]? = some v) : Ev P n l w (.load t x) v :=
  Ev.loadCell hn hx (by rw [hb.cell]; exact hi)
theorem Ev.convInt {d : TypeId} {k k' : IntKind} (hs : (P.underlying t).isSome = true) (hd : P.underlying d = some (.int (P.intKind d))) (hk : P.intKind d = k') (hx : evl l x = some (.int k a)) : Ev P n l w (.convert t d x) (.int k' (k'.wrap a)) := fun o ac w' ho ha _ => by
  unfold execOp; rw [ho]
  have := run_convert_int w' t d k a hs hd
  rw [hk] at this
  simp [ha.eval hx, this]
theorem Ev.max2 {ts : Array TypeId} {k k' : IntKind} (hx : evl l x = some (.int k a)) (hy : evl l y = some (.int k' b)) : Ev P n l w (.call ⟨.builtin .max, #[x, y], ts⟩) (.int k (if b > a then b else a)) := fun o ac w' ho ha _ => by
  unfold execOp; rw [ho]
  simp only [resolve, Sem.run_bind, Sem.run_pure, Result.andThen_ok, invoke, builtin, List.map_toArray, List.map_cons, List.map_nil, ha.eval hx, ha.eval hy, run_max_int2]
theorem Ev.min2 {ts : Array TypeId} {k k' : IntKind} (hx : evl l x = some (.int k a)) (hy : evl l y = some (.int k' b)) : Ev P n l w (.call ⟨.builtin .min, #[x, y], ts⟩) (.int k (if b < a then b else a)) := fun o ac w' ho ha _ => by
  unfold execOp; rw [ho]
  simp only [resolve, Sem.run_bind, Sem.run_pure, Result.andThen_ok, invoke, builtin, List.map_toArray, List.map_cons, List.map_nil, ha.eval hx, ha.eval hy, run_min_int2]
theorem Ev.build {parts : List (Nat × Operand)} {vs : List (Nat × Value)} {cs : List Value} (hx : evps l parts = some vs) (hb : P.built t vs = some cs.toArray) : Ev P n l w (.build t parts.toArray) (.agg cs.toArray) := fun o a w' ho ha _ => by
  unfold execOp; rw [ho]
  have h1 := run_build (P := P) w' t vs.toArray cs.toArray (by simpa using hb)
  simp only [List.map_toArray, ha.evps hx, Sem.run_bind, h1, Result.andThen_ok, Sem.run_pure]
end
end

/-- cells of an element that says all -/
theorem Sl.flat_cell {α : Type} {k : Nat} {enc : α → List Value} {pos : 0 < k} {hl : ∀ x, (enc x).length = k} {h1 : ∀ x, ∀ u ∈ enc x, u.oneCell' = true} {S : Nat → Prop} {w : World} {A : Option Addr} {c : Nat} {xs : List α}
    (h : Sl (Ty.flat k enc pos hl h1) S w A c xs) {i : Nat} {x : α} (hx : xs[i]? = some x) {j : Nat} {u : Value} (hj : (enc x)[j]? = some u) : w.cell? ((adr A).add (i * k + j)) = some u := by
  obtain ⟨_, cs, h2, h3⟩ := h.rows i x hx
  have : cs = enc x := h2
  subst this
  exact h3 j u hj
theorem Sl.flat_row {α : Type} {k : Nat} {enc : α → List Value} {pos : 0 < k} {hl : ∀ x, (enc x).length = k} {h1 : ∀ x, ∀ u ∈ enc x, u.oneCell' = true} {S : Nat → Prop} {w : World} {A : Option Addr} {c : Nat} {xs : List α}
    (h : Sl (Ty.flat k enc pos hl h1) S w A c xs) {i : Nat} {x : α} (hx : xs[i]? = some x) : ∀ j u, (enc x)[j]? = some u → w.cell? (((adr A).add (i * k)).add j) = some u := fun j u hj => by
  rw [add_of_add]; exact h.flat_cell hx hj

theorem Sl.flat_part {α : Type} {k : Nat} {enc : α → List Value} {pos : 0 < k} {hl : ∀ x, (enc x).length = k} {h1 : ∀ x, ∀ u ∈ enc x, u.oneCell' = true} {S : Nat → Prop} {w : World} {A : Option Addr} {c : Nat} {xs : List α}
    (h : Sl (Ty.flat k enc pos hl h1) S w A c xs) {i f m : Nat} {x : α} (hx : xs[i]? = some x) {cs : List Value} (hs : ((enc x).drop f).take m = cs) : ∀ j u, cs[j]? = some u → w.cell? (((adr A).add (i * k + f)).add j) = some u := fun j u hj => by
  rw [add_of_add, Nat.add_assoc]
  refine h.flat_cell hx ?_
  rw [← hs, List.getElem?_take] at hj
  split at hj
  · rw [List.getElem?_drop] at hj; exact hj
  · cases hj
/-! ### operations that change the memory -/
section
variable {P : Program} {n : Cx} {l : List (Nat × Value)} {w : World} {Q : Exit → Act → World → Prop} {K : Act → World → Prop} {ops : Array Oper} {os : List Oper} {ty : TypeId} {pos : String} {aft : Array Edge} {d : Nat}

theorem WL.box {t : TypeId} {x : Operand} {v : Value} {cs : List Value} (hx : evl l x = some v) (hcs : v.cells = cs.toArray) (hd : Nat.blt d n.size = true)
    (k : ∀ w', Ext w w' → Bx w' w.heap.size t cs → w'.heap.size = w.heap.size + 1 → WL P n ops Q K os ((d, .pointer (some ⟨w.heap.size, 0, none⟩)) :: l) w') : WL P n ops Q K (⟨some d, .box t x, ty, pos, aft, none⟩ :: os) l w :=
  WL.val (v := .pointer (some ⟨w.heap.size, 0, none⟩)) (fun a _ => wanted_none a) rfl hd (R := fun w' => w' = w.alloc (.cells cs.toArray t)) (fun a ha => ⟨_, by
    unfold execOp
    simp only [ha.eval hx, Instr.box, newVar, newRow, hcs, Sem.run_bind, run_newObj, Sem.run_pure, Result.andThen_ok]
    rfl, rfl⟩) fun w' e => by
    subst e
    exact k _ (Ext.alloc w _) (Bx.new w t cs) (by simp)
theorem WL.alloc {t : TypeId} {z : Value} {cs : List Value} (hz : ∀ w, (zeroValue t).run P w = .ok z w) (hcs : z.cells = cs.toArray) (hd : Nat.blt d n.size = true)
    (k : ∀ w', Ext w w' → Bx w' w.heap.size t cs → w'.heap.size = w.heap.size + 1 → WL P n ops Q K os ((d, .pointer (some ⟨w.heap.size, 0, none⟩)) :: l) w') : WL P n ops Q K (⟨some d, .alloc t, ty, pos, aft, none⟩ :: os) l w :=
  WL.val (v := .pointer (some ⟨w.heap.size, 0, none⟩)) (fun a _ => wanted_none a) rfl hd (R := fun w' => w' = w.alloc (.cells cs.toArray t)) (fun a ha => ⟨_, by
    unfold execOp
    simp only [Instr.alloc, hz, newVar, newRow, hcs, Sem.run_bind, run_newObj, Sem.run_pure, Result.andThen_ok]
    rfl, rfl⟩) fun w' e => by
    subst e
    exact k _ (Ext.alloc w _) (Bx.new w t cs) (by simp)
theorem WL.buildSlice {t e : TypeId} {k : Nat} {m : Nat} {parts : List (Nat × Operand)} {vs : List (Nat × Value)} {cs : List Value} (hx : evps l parts = some vs)
    (hb : ∀ w, (Instr.buildSlice t m vs.toArray).run P w = .ok (.slice (some ⟨w.heap.size, 0, none⟩) m m) (w.alloc (.cells cs.toArray e))) (hd : Nat.blt d n.size = true) (hk : cs.length = m * k)
    (kk : ∀ w', Ext w w' → Bx w' w.heap.size e cs → w'.heap.size = w.heap.size + 1 → WL P n ops Q K os ((d, .slice (some ⟨w.heap.size, 0, none⟩) m m) :: l) w') : WL P n ops Q K (⟨some d, .buildSlice t m parts.toArray, ty, pos, aft, none⟩ :: os) l w :=
  WL.val (v := .slice (some ⟨w.heap.size, 0, none⟩) m m) (fun a _ => wanted_none a) rfl hd (R := fun w' => w' = w.alloc (.cells cs.toArray e)) (fun a ha => ⟨_, by
    unfold execOp
    simp only [List.map_toArray, ha.evps hx, Sem.run_bind, hb, Result.andThen_ok, Sem.run_pure], rfl⟩) fun w' e => by
    subst e
    exact kk _ (Ext.alloc w _) (Bx.new w _ cs) (by simp)

theorem run_storeBox {g : Nat} {t t' : TypeId} {cs ds : List Value} (hs : Size P t ds.length) (hb : Bx w g t' cs) (hl : cs.length = ds.length) (h1 : ∀ u ∈ ds, u.oneCell' = true) {v : Value} (hv : v.cells = ds.toArray) :
    ∃ w', (Instr.storeAt t (.pointer (some ⟨g, 0, none⟩)) v).run P w = .ok () w' ∧ Mod g w w' ∧ Bx w' g t' ds ∧ w'.heap.size = w.heap.size := by
  have hst := run_storeCells_at P g 0 t' ds 0 cs.toArray w hb (by simp [hl]) h1
  refine ⟨w.setRow g ds.toArray, ?_, ⟨rfl, rfl, rfl, by simp, fun k _ hn => setRow_other w g k _ hn, Nat.le_refl _⟩, setRow_heap w g cs.toArray ds.toArray t' (0, 0) hb, by simp⟩
  · simp only [Instr.storeAt, Instr.sureAddr, storeVar, hv, Sem.run_bind, Sem.run_pure, Result.andThen_ok, hs w]
    simp only [List.size_toArray, ne_eq, not_true_eq_false, if_false, Sem.run_bind, Sem.run_pure, Result.andThen_ok]
    rw [hst]
    have hdrop : List.drop ds.length cs = [] := List.drop_eq_nil_of_le (by omega)
    simp [hdrop]
theorem WL.storeBox {t t' : TypeId} {x y : Operand} {g : Nat} {v : Value} {cs ds : List Value} (hx : evl l x = some (.pointer (some ⟨g, 0, none⟩))) (hy : evl l y = some v) (hv : v.cells = ds.toArray) (hs : Size P t ds.length) (hb : Bx w g t' cs) (hl : cs.length = ds.length) (h1 : ∀ u ∈ ds, u.oneCell' = true)
    (k : ∀ w', Mod g w w' → Bx w' g t' ds → w'.heap.size = w.heap.size → WL P n ops Q K os l w') : WL P n ops Q K (⟨none, .store t x y, ty, pos, aft, none⟩ :: os) l w :=
  WL.unit (fun a _ => wanted_none a) rfl (R := fun w' => Mod g w w' ∧ Bx w' g t' ds ∧ w'.heap.size = w.heap.size) (fun a ha => by
    obtain ⟨w', h2, h3⟩ := run_storeBox (P := P) (w := w) hs hb hl h1 hv
    exact ⟨w', by unfold execOp; simp [ha.eval hx, ha.eval hy, h2], h3⟩) fun w' ⟨h3, h4, h5⟩ => k w' h3 h4 h5
theorem run_storeCell {g i : Nat} {t t' : TypeId} {cs : List Value} (hs : Size P t 1) (hb : Bx w g t' cs) (hi : i < cs.length) {v : Value} (h1 : v.oneCell' = true) :
    (Instr.storeAt t (.pointer (some ⟨g, i, none⟩)) v).run P w = .ok () (w.setCell ⟨g, i, none⟩ v) := by
  have hc : v.cells = #[v] := by cases v <;> simp [Value.cells, Value.oneCell'] at h1 ⊢
  have h2 : w.cell? ⟨g, i, none⟩ = some (cs[i]'hi) := by rw [hb.cell]; exact List.getElem?_eq_getElem hi
  simp only [Instr.storeAt, Instr.sureAddr, storeVar, hc, Sem.run_bind, Sem.run_pure, Result.andThen_ok, hs w]
  simp [storeCells, Addr.add, run_store P w ⟨g, i, none⟩ v .plain h1, h2, hb.frozen]
theorem WL.storeCell {t t' : TypeId} {x y : Operand} {g i : Nat} {v : Value} {cs : List Value} (hx : evl l x = some (.pointer (some ⟨g, i, none⟩))) (hy : evl l y = some v) (h1 : v.oneCell' = true) (hs : Size P t 1) (hb : Bx w g t' cs) (hi : i < cs.length)
    (k : ∀ w', Mod g w w' → Bx w' g t' (cs.set i v) → w'.heap.size = w.heap.size → WL P n ops Q K os l w') : WL P n ops Q K (⟨none, .store t x y, ty, pos, aft, none⟩ :: os) l w :=
  WL.unit (fun a _ => wanted_none a) rfl (R := fun w' => w' = w.setCell ⟨g, i, none⟩ v) (fun a ha => ⟨_, by
    unfold execOp; simp [ha.eval hx, ha.eval hy, run_storeCell (P := P) hs hb hi h1], rfl⟩) fun w' e => by
    subst e
    exact k _ (Mod.setCell w ⟨g, i, none⟩ v) (hb.set_ i v) (by simp)

/-- what append asks of the element's type -/
structure ElemInfo (P : Program) (e : TypeId) (k bytes : Nat) : Prop where
  ex : ∃ (i : TypeInfo) (z : Value), P.info? e = some i ∧ i.zero = some z ∧ i.size = k ∧ i.bytes = bytes ∧ z.cells.size = k

theorem run_append {α : Type} {τ : Ty α} {t e : TypeId} {bytes lo : Nat} {S S2 : Nat → Prop} {A B : Option Addr} {c c2 : Nat} {xs ys : List α} (hT : P.underlying t = some (.slice e)) (hI : ElemInfo P e τ.k bytes)
    (ho : Own τ e lo S w A c xs) (hy : Sl τ S2 w B c2 ys) (hconv : ∀ w x cs, τ.R S2 w x cs → τ.R S w x cs) (hS : ∀ g, blk A = some g → ¬ S g) (hmax : xs.length + ys.length ≤ maxLen) (hby : (xs.length + ys.length) * bytes ≤ 140737488355328) (hlo : lo ≤ w.heap.size) (r : TypeId) :
    ∃ A' c' w', (Builtin.append_ #[t, t] r #[.slice A xs.length c, .slice B ys.length c2]).run P w = .ok (.slice A' (xs ++ ys).length c') w' ∧ Own τ e lo S w' A' c' (xs ++ ys) ∧ Grw w w' (blk A) ∧ (blk A' = blk A ∨ blk A' = some w.heap.size) := by
  obtain ⟨i, z, hi, hz, hsz, hb, hzs⟩ := hI.ex
  have hblk : ∀ m c, (Value.slice A m c).ownBlock = blk A := by intro m c; cases A <;> rfl
  by_cases hys : ys = []
  · subst hys
    obtain ⟨css, hl, hR, hown⟩ := ho
    refine ⟨A, c, w, ?_, ?_, ⟨rfl, rfl, rfl, Nat.le_refl _, fun _ _ _ => rfl, Nat.le_refl _⟩, .inl rfl⟩
    · rcases hown.2 with ⟨hv, hn⟩ | ⟨g, cap, cur, hv, _, _, hnc, _⟩
      · injection hv with hA hn' hc
        subst hA hc
        cases B <;> simp [Builtin.append_, run_underlying hT, sizeOf, typeInfo, hi, Builtin.lenOf, hn, Builtin.firstCells, loadCells, loadCellsFrom]
      · injection hv with hA hn' hc
        subst hA hc
        cases B <;> simp [Builtin.append_, run_underlying hT, sizeOf, typeInfo, hi, Builtin.lenOf, hnc, Builtin.firstCells, loadCells, loadCellsFrom, storeCells]
    · rw [List.append_nil]
      exact ⟨css, hl, hR, hown⟩
  · have hB : B = some (adr B) := hy.some_ (i := 0) (x := ys.head hys) (by cases ys with | nil => exact absurd rfl hys | cons y ys => rfl)
    obtain ⟨css, hl, hR, hown⟩ := ho
    obtain ⟨dss, h1, h2, h3, h4, h5⟩ := hy.cells
    obtain ⟨v', w', hrun, hown', hg, _, hat⟩ := run_append_own_at (P := P) w lo t r e i z τ.k bytes hT hi hz hsz hb hzs τ.pos _ _ _ hown (adr B) ys.length c2 dss.flatten h3 h5 h4 hmax hby hlo
    obtain ⟨A', c', hv⟩ : ∃ A' c', v' = .slice A' (xs ++ ys).length c' := by
      rcases hown'.2 with ⟨hv, hn⟩ | ⟨g, cap, cur, hv, _⟩
      · exact ⟨none, 0, by rw [hv, List.length_append, hn]⟩
      · exact ⟨_, _, by rw [hv, List.length_append]⟩
    subst hv
    have hA' : (Value.slice A' (xs ++ ys).length c').ownBlock = blk A' := by cases A' <;> rfl
    rw [hA', hblk] at hat
    rw [hblk] at hg
    have hg := Grw.of hg (run_drawn _ _ _ _ hrun)
    have hkeep : ∀ x cs, τ.R S w x cs → τ.R S w' x cs := by
      intro x cs hx
      cases hA : blk A with
      | none => rw [hA] at hg; exact τ.ext (Ext.of_grown hg (fun k hk => by cases hk)) hx
      | some g => rw [hA] at hg; exact τ.mod (Mod.of_grown hg (fun k hk => by cases hk; rfl)) (hS g hA) hx
    refine ⟨A', c', w', by rw [hB]; exact hrun, ⟨css ++ dss, by simp [hl, h1], ?_, ?_⟩, hg, hat⟩
    · intro i x hx
      by_cases hix : i < xs.length
      · rw [List.getElem?_append_left hix] at hx
        obtain ⟨cs, h6, h7⟩ := hR i x hx
        exact ⟨cs, by rw [List.getElem?_append_left (by omega)]; exact h6, hkeep x cs h7⟩
      · rw [List.getElem?_append_right (by omega)] at hx
        obtain ⟨cs, h6, h7⟩ := h2 _ x hx
        exact ⟨cs, by rw [List.getElem?_append_right (by omega), hl]; exact h6, hkeep x cs (hconv w x cs h7)⟩
    · rw [List.flatten_append]
      have : (xs ++ ys).length = xs.length + ys.length := by simp
      rw [this] at hown' ⊢
      exact hown'

theorem WL.append {α : Type} {τ : Ty α} {t e : TypeId} {bytes lo : Nat} {S S2 : Nat → Prop} {A B : Option Addr} {c c2 : Nat} {xs ys : List α} {s x : Operand} (hs : evl l s = some (.slice A xs.length c)) (hx : evl l x = some (.slice B ys.length c2))
    (ho : Own τ e lo S w A c xs) (hy : Sl τ S2 w B c2 ys) (hT : P.underlying t = some (.slice e)) (hI : ElemInfo P e τ.k bytes) (hconv : ∀ w x cs, τ.R S2 w x cs → τ.R S w x cs) (hS : ∀ g, blk A = some g → ¬ S g)
    (hmax : xs.length + ys.length ≤ maxLen) (hby : (xs.length + ys.length) * bytes ≤ 140737488355328) (hlo : lo ≤ w.heap.size) (hd : Nat.blt d n.size = true)
    (k : ∀ A' c' w', Own τ e lo S w' A' c' (xs ++ ys) → Grw w w' (blk A) → (blk A' = blk A ∨ blk A' = some w.heap.size) → WL P n ops Q K os ((d, .slice A' (xs ++ ys).length c') :: l) w') :
    WL P n ops Q K (⟨some d, .call ⟨.builtin .append, #[s, x], #[t, t]⟩, ty, pos, aft, none⟩ :: os) l w := by
  obtain ⟨A', c', w', hrun, h1, h2, h3⟩ := run_append (P := P) (w := w) hT hI ho hy hconv hS hmax hby hlo ty
  refine WL.val (v := .slice A' (xs ++ ys).length c') (fun a _ => wanted_none a) rfl hd (R := fun w2 => w2 = w') (fun a ha => ⟨w', ?_, rfl⟩) fun w2 e => by rw [e]; exact k A' c' w' h1 h2 h3
  unfold execOp
  simp only [resolve, Sem.run_bind, Sem.run_pure, Result.andThen_ok, invoke, builtin, List.map_toArray, List.map_cons, List.map_nil, ha.eval hs, ha.eval hx, hrun]
/-- the same, at lists that are no longer than a million -/
theorem WL.app {α : Type} {τ : Ty α} {t e : TypeId} {bytes lo : Nat} {S S2 : Nat → Prop} {A B : Option Addr} {c c2 : Nat} {xs ys : List α} {s x : Operand} (hs : evl l s = some (.slice A xs.length c)) (hx : evl l x = some (.slice B ys.length c2))
    (ho : Own τ e lo S w A c xs) (hy : Sl τ S2 w B c2 ys) (hT : P.underlying t = some (.slice e)) (hI : ElemInfo P e τ.k bytes) (hconv : ∀ w x cs, τ.R S2 w x cs → τ.R S w x cs) (hS : ∀ g, blk A = some g → ¬ S g)
    (hm1 : xs.length ≤ 1000000) (hm2 : ys.length ≤ 1000000) (hby : Nat.ble bytes 1000 = true) (hlo : lo ≤ w.heap.size) (hd : Nat.blt d n.size = true)
    (k : ∀ A' c' w', Own τ e lo S w' A' c' (xs ++ ys) → Grw w w' (blk A) → (blk A' = blk A ∨ blk A' = some w.heap.size) → WL P n ops Q K os ((d, .slice A' (xs ++ ys).length c') :: l) w') :
    WL P n ops Q K (⟨some d, .call ⟨.builtin .append, #[s, x], #[t, t]⟩, ty, pos, aft, none⟩ :: os) l w :=
  WL.append hs hx ho hy hT hI hconv hS (by simp only [maxLen]; omega) (Nat.le_trans (Nat.mul_le_mul (show _ ≤ 2000000 by omega) (Nat.le_of_ble_eq_true hby)) (by decide)) hlo hd k
end

/-- no block -/
def No : Nat → Prop := fun _ => False

theorem Own.fr {α : Type} {τ : Ty α} {e : TypeId} {lo : Nat} {a w : World} {A : Option Addr} {c : Nat} {xs : List α} (h : Own τ e lo No w A c xs) (hlo : a.heap.size ≤ lo) : Sl τ (Fr a) w A c xs :=
  h.sl (fun _ hb => Nat.le_trans hlo hb) (fun _ hb => hb.elim)
theorem Own.any {α : Type} {τ : Ty α} {e : TypeId} {lo : Nat} {S : Nat → Prop} {w : World} {A : Option Addr} {c : Nat} {xs : List α} (h : Own τ e lo S w A c xs) : Sl τ Any w A c xs :=
  h.sl (fun _ _ => trivial) (fun _ _ => trivial)
/-- a row of one element, just made -/
theorem Bx.sl_one {α : Type} {τ : Ty α} {e : TypeId} {S S2 : Nat → Prop} {w : World} {g : Nat} {cs : List Value} {x : α} (h : Bx w g e cs) (hR : τ.R S2 w x cs) (hg : S g) (hS : ∀ b, S2 b → S b) : Sl τ S w (some ⟨g, 0, none⟩) 1 [x] := by
  refine ⟨by simp, by simp [maxLen], (fun h => by cases h), fun i y hy => ?_⟩
  cases i with
  | succ i => simp at hy
  | zero =>
    simp at hy
    subst hy
    refine ⟨hg, cs, τ.sub hS hR, fun j u hu => ?_⟩
    have : (adr (some ⟨g, 0, none⟩)).add (0 * τ.k + j) = ⟨g, j, none⟩ := by simp [adr, Addr.add_lit]
    rw [this, h.cell]
    exact hu
/-- an empty row, just made -/
theorem Bx.own_empty {α : Type} {τ : Ty α} {e : TypeId} {lo : Nat} {S : Nat → Prop} {w : World} {g : Nat} (h : Bx w g e []) (hlo : lo ≤ g) : Own τ e lo S w (some ⟨g, 0, none⟩) 0 [] :=
  ⟨[], rfl, fun i x hx => by simp at hx, by simp, .inr ⟨g, 0, #[], rfl, hlo, h, Nat.le_refl _, by simp [maxLen], by simp, by simp⟩⟩
theorem Bx.own_one {α : Type} {τ : Ty α} {e : TypeId} {lo : Nat} {S : Nat → Prop} {w : World} {g : Nat} {cs : List Value} {x : α} (h : Bx w g e cs) (hR : τ.R S w x cs) (hlo : lo ≤ g) : Own τ e lo S w (some ⟨g, 0, none⟩) 1 [x] := by
  have hl := τ.len hR
  refine ⟨[cs], rfl, fun i y hy => ?_, by simp [hl], .inr ⟨g, 1, cs.toArray, rfl, hlo, h, Nat.le_refl _, by simp [maxLen], by simp [hl], by simp [← hl]⟩⟩
  cases i with
  | succ i => simp at hy
  | zero => simp at hy; subst hy; exact ⟨cs, rfl, hR⟩

/-- two rows that share no block -/
def Apart (A B : Option Addr) : Prop := ∀ g, blk A = some g → blk B ≠ some g
theorem Apart.symm {A B : Option Addr} (h : Apart A B) : Apart B A := fun g hB hA => h g hA hB
theorem Apart.nil_l (B : Option Addr) : Apart none B := fun g h => by simp [blk] at h
theorem Apart.nil_r (A : Option Addr) : Apart A none := fun g _ h => by simp [blk] at h
theorem Own.apart {α : Type} {τ : Ty α} {e : TypeId} {lo : Nat} {S : Nat → Prop} {w : World} {A B B' : Option Addr} {c : Nat} {xs : List α} (h : Own τ e lo S w A c xs) (ap : Apart A B) (hB : blk B' = blk B ∨ blk B' = some w.heap.size) : Apart A B' := by
  intro g hA hB'
  rcases hB with hB | hB
  · rw [hB] at hB'; exact ap g hA hB'
  · rw [hB] at hB'
    have := (h.blk_lt g hA).2
    cases hB'
    omega
theorem Own.grown {α : Type} {τ : Ty α} {e : TypeId} {lo : Nat} {S : Nat → Prop} {w w' : World} {A B : Option Addr} {c : Nat} {xs : List α} (h : Own τ e lo S w A c xs) (hg : Grw w w' (blk B)) (ap : Apart A B) (hS : ∀ g, blk B = some g → ¬ S g) : Own τ e lo S w' A c xs := by
  cases hB : blk B with
  | none => rw [hB] at hg; exact h.ext (Ext.of_grown hg (fun k hk => by cases hk))
  | some g =>
    rw [hB] at hg
    exact h.mod (Mod.of_grown hg (fun k hk => by cases hk; rfl)) (hS g hB) (fun hA => ap g hA hB)
theorem Sl.grown {α : Type} {τ : Ty α} {S : Nat → Prop} {w w' : World} {A B : Option Addr} {c : Nat} {xs : List α} (h : Sl τ S w A c xs) (hg : Grw w w' (blk B)) (hS : ∀ g, blk B = some g → ¬ S g) : Sl τ S w' A c xs := by
  cases hB : blk B with
  | none => rw [hB] at hg; exact h.ext (Ext.of_grown hg (fun k hk => by cases hk))
  | some g => rw [hB] at hg; exact h.mod (Mod.of_grown hg (fun k hk => by cases hk; rfl)) (hS g hB)
theorem Bx.grown {α : Type} {τ : Ty α} {e e' : TypeId} {lo : Nat} {S : Nat → Prop} {w w' : World} {g : Nat} {cs : List Value} {A : Option Addr} {c : Nat} {xs : List α} (h : Bx w g e' cs) (ho : Own τ e lo S w A c xs) (hg : Grw w w' (blk A)) (hlo : g < lo) : Bx w' g e' cs := by
  cases hB : blk A with
  | none => rw [hB] at hg; exact h.ext (Ext.of_grown hg (fun k hk => by cases hk))
  | some g' =>
    rw [hB] at hg
    refine h.mod (Mod.of_grown hg (fun k hk => by cases hk; rfl)) (fun e => ?_)
    have := (ho.blk_lt g' hB).1
    omega

/-- an older world's blocks stay as they were where only an own row was written -/
theorem Ext.own {α : Type} {τ : Ty α} {e : TypeId} {lo : Nat} {S : Nat → Prop} {a w w' : World} {A : Option Addr} {c : Nat} {xs : List α} (h : Ext a w) (ho : Own τ e lo S w A c xs) (hg : Grw w w' (blk A)) (hlo : a.heap.size ≤ lo) : Ext a w' := by
  cases hA : blk A with
  | none => rw [hA] at hg; exact h.trans (Ext.of_grown hg (fun k hk => by cases hk))
  | some g => rw [hA] at hg; exact h.mod (Mod.of_grown hg (fun k hk => by cases hk; rfl)) (by have := (ho.blk_lt g hA).1; omega)
end Go.Proofs.YtlnjmkmhmbijmaaGreat
