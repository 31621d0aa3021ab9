/- Rules over what a walk holds of memory, and short names for the steps. -/
import Derived.Test.YtlnjmkmhmbijmaaGreatM4
set_option linter.all false
namespace Go.Proofs.YtlnjmkmhmbijmaaGreat
open Go.RowKit

/-! ### frames -/
/-- as look, in other words, so that nobody holds l against l' -/
def lok : List (Nat × Value) → Nat → Option Value
  | [], _ => none
  | p :: l, i => match Nat.beq i p.1 with
    | true => some p.2
    | false => lok l i
theorem lok_eq : ∀ (l : List (Nat × Value)) (i : Nat), lok l i = look l i
  | [], _ => rfl
  | p :: l, i => by
    unfold lok look
    have e : Nat.beq i p.1 = Nat.beq p.1 i := by
      cases h : Nat.beq p.1 i with
      | true => rw [Nat.eq_of_beq_eq_true h]; exact Nat.beq_refl _
      | false =>
        cases h2 : Nat.beq i p.1 with
        | false => rfl
        | true => rw [Nat.eq_of_beq_eq_true h2, Nat.beq_refl] at h; cases h
    rw [e, lok_eq l i]
    cases Nat.beq p.1 i <;> rfl
def lkA (l : List (Nat × Value)) : List (Nat × Value) → List (Option Value)
  | [] => []
  | p :: r => look l p.1 :: lkA l r
def lkB (l : List (Nat × Value)) : List (Nat × Value) → List (Option Value)
  | [] => []
  | p :: r => lok l p.1 :: lkB l r
/-- the slots of l' hold in l what l' says -/
def Sb (l l' : List (Nat × Value)) : Prop := lkA l l' = lkB l' l'
theorem lk_mem {l l' : List (Nat × Value)} : ∀ {r : List (Nat × Value)}, lkA l r = lkB l' r → ∀ p ∈ r, look l p.1 = look l' p.1
  | [], _, p, hp => by simp at hp
  | q :: r, h, p, hp => by
    have h1 : look l q.1 = lok l' q.1 := (List.cons.inj h).1
    rcases List.mem_cons.1 hp with rfl | hp
    · rw [h1, lok_eq]
    · exact lk_mem (List.cons.inj h).2 p hp
theorem look_mem : ∀ {l : List (Nat × Value)} {i : Nat} {v : Value}, look l i = some v → ∃ p ∈ l, p.1 = i
  | [], i, v, h => by simp [look] at h
  | p :: l, i, v, h => by
    unfold look at h
    cases hb : Nat.beq p.1 i with
    | true => exact ⟨p, by simp, Nat.eq_of_beq_eq_true hb⟩
    | false => simp [hb] at h; obtain ⟨q, hq, e⟩ := look_mem h; exact ⟨q, by simp [hq], e⟩
theorem Sb.look_ {l l' : List (Nat × Value)} (h : Sb l l') {i : Nat} {v : Value} (hv : look l' i = some v) : look l i = some v := by
  obtain ⟨p, hp, rfl⟩ := look_mem hv
  rw [lk_mem h p hp]; exact hv
theorem Has.sb {n : Cx} {l l' : List (Nat × Value)} {a : Act} (h : Has n l a) (hs : Sb l l') : Has n l' a := ⟨h.defers, h.size, fun i v hv => h.get i v (hs.look_ hv)⟩
def evd (n : Cx) (l : List (Nat × Value)) (d : Nat) (x : Operand) : Option Value := bif Nat.blt d n.size then evl l x else none
theorem evd_blt {n : Cx} {l : List (Nat × Value)} {d : Nat} {x : Operand} {v : Value} (h : evd n l d x = some v) : Nat.blt d n.size = true ∧ evl l x = some v := by
  unfold evd at h
  cases hb : Nat.blt d n.size with
  | false => rw [hb] at h; cases h
  | true => rw [hb] at h; exact ⟨rfl, h⟩

section
variable {P : Program} {n : Cx} {l l' : List (Nat × Value)} {w w' : World} {Q : Exit → Act → World → Prop} {K : Act → World → Prop} {ops : Array Oper} {os : List Oper} {ty t : TypeId} {pos : String} {aft : Array Edge} {d : Nat} {x y : Operand} {v : Value}
theorem rg {ol : List Oper} {id : Nat} {y : Code} (h : WL P n ol.toArray (Exit.then (cwp P n y Q) Q) (cwp P n y Q) ol l w) (hp : n.plain = false := by rfl) : WP P n (.seq (.region id ol.toArray false) y) l w Q := WP.region h hp
theorem rge {ol : List Oper} {id : Nat} (h : WL P n ol.toArray Q (Q .normal) ol l w) (hp : n.plain = false := by rfl) : WP P n (.region id ol.toArray false) l w Q := WP.region_end h hp
theorem dn {y : Code} {Q' : Exit → Act → World → Prop} (h : WP P n y l w Q) : WL P n ops Q' (cwp P n y Q) [] l w := WL.done h
theorem dne {Q' : Exit → Act → World → Prop} (h : Pst n Q .normal l w) : WL P n ops Q' (Q .normal) [] l w := WL.done_end h
theorem ev {op : Op} (h : Ev P n l w op v) (k : WL P n ops Q K os ((d, v) :: l) w) (hd : Nat.blt d n.size = true := by rfl) : WL P n ops Q K (⟨some d, op, ty, pos, aft, none⟩ :: os) l w := WL.ev h hd k
theorem evg {op : Op} {j : Nat} {want : Bool} (h : Ev P n l w op v) (k : WL P n ops Q K os ((d, v) :: l) w) (hg : guardOf ops l j = some (.bool want) := by rfl) (hd : Nat.blt d n.size = true := by rfl) : WL P n ops Q K (⟨some d, op, ty, pos, aft, some (j, want)⟩ :: os) l w := WL.evg hg h hd k
theorem mv (h : evd n l d x = some v) (k : WL P n ops Q K os ((d, v) :: l) w) : WL P n ops Q K (⟨some d, .move x, ty, pos, aft, none⟩ :: os) l w := WL.ev (Ev.move (evd_blt h).2) (evd_blt h).1 k
theorem as_ (h : evd n l d x = some v) (k : WL P n ops Q K os ((d, v) :: l) w) : WL P n ops Q K (⟨some d, .assign x, ty, pos, aft, none⟩ :: os) l w := WL.ev (Ev.assign (evd_blt h).2) (evd_blt h).1 k
theorem xt {vs : List Value} {i : Nat} (h : evd n l d x = some (.tuple vs.toArray)) (hi : vs[i]? = some v) (k : WL P n ops Q K os ((d, v) :: l) w) : WL P n ops Q K (⟨some d, .extract x i, ty, pos, aft, none⟩ :: os) l w := WL.ev (Ev.extract (evd_blt h).2 hi) (evd_blt h).1 k
section
variable {k : IntKind} {a b : Int}
theorem lss (hx : evd n l d x = some (.int k a)) (hy : evl l y = some (.int k b)) (kk : WL P n ops Q K os ((d, .bool (decide (a < b))) :: l) w) : WL P n ops Q K (⟨some d, .binOp .lss t x y ty, ty, pos, aft, none⟩ :: os) l w := WL.ev (Ev.lss (evd_blt hx).2 hy) (evd_blt hx).1 kk
end
theorem WL.cutb (m d : Nat) (r : Bool) (h : WL P n ops Q (fun a' w' => Has n ((d, .bool r) :: l) a' ∧ w' = w) (os.take m) l w) (k : WL P n ops Q K (os.drop m) ((d, .bool r) :: l) w) : WL P n ops Q K os l w := WL.cut m _ h k
theorem WQ.cutb {Qa : Act → Prop} (m d : Nat) (r : Bool) (h : WQ P n ops w (fun a' => Has n ((d, .bool r) :: l) a') (os.take m) l) (k : WQ P n ops w Qa (os.drop m) ((d, .bool r) :: l)) : WQ P n ops w Qa os l := WQ.cut m _ h k
theorem WL.cutbW (m d : Nat) (r : Bool) (h : WL P n ops Q (fun a' w' => Has n ((d, .bool r) :: l) a' ∧ Ext w w') (os.take m) l w) (k : ∀ w', Ext w w' → WL P n ops Q K (os.drop m) ((d, .bool r) :: l) w') : WL P n ops Q K os l w := WL.cutW m _ h k
theorem WL.cend {l1 : List (Nat × Value)} (hs : Sb l l1) : WL P n ops Q (fun a' w' => Has n l1 a' ∧ w' = w) [] l w := fun _ ha => ⟨ha.sb hs, rfl⟩
theorem WQ.cend {l1 : List (Nat × Value)} (hs : Sb l l1) : WQ P n ops w (fun a' => Has n l1 a') [] l := fun _ ha => ha.sb hs
theorem WL.cendW {l1 : List (Nat × Value)} {w0 : World} (hs : Sb l l1) (he : Ext w0 w) : WL P n ops Q (fun a' w' => Has n l1 a' ∧ Ext w0 w') [] l w := fun _ ha => ⟨ha.sb hs, he⟩
theorem WP.keep' {c : Code} (l' : List (Nat × Value)) (hs : Sb l l') (h : WP P n c l' w Q) : WP P n c l w Q := fun a ha => h a (ha.sb hs)
theorem Pst.re {e : Exit} {t : Nat} {u v : Value} (hl : look l t = some u) (he : u = v) (k : Pst n Q e ((t, v) :: l) w) : Pst n Q e l w := fun a ha => k a (ha.set hl he)
theorem WP.lp {c : Code} (J : Nat → List (Nat × Value) → World → Prop) {m0 : Nat} {l0 : List (Nat × Value)} (h0 : J m0 l0 w) (hs : Sb l l0)
    (hr : ∀ m l w', J m l w' → WP P n c l w' (Exit.then (Again n J m) Q)) : WP P n (.loop c) l w Q := WP.loop J m0 l0 (fun _ ha => ha.sb hs) h0 hr
theorem Pst.ag {J : Nat → List (Nat × Value) → World → Prop} {m m' : Nat} {l' : List (Nat × Value)} (hJ : J m' l' w) (hs : Sb l l') (hm : m' < m) : Pst n (Exit.then (Again n J m) Q) .normal l w :=
  fun _ ha => ⟨m', l', hm, ha.sb hs, hJ⟩
theorem Pst.jag {lb : Nat} {J : Nat → List (Nat × Value) → World → Prop} {m m' : Nat} {l' : List (Nat × Value)} (hJ : J m' l' w) (hs : Sb l l') (hm : m' < m) : Pst n (Exit.jump lb (Again n J m) Q) (.goto lb) l w :=
  fun _ ha => ⟨rfl, m', l', hm, ha.sb hs, hJ⟩
theorem WP.kp {c : Code} {J : Nat → List (Nat × Value) → World → Prop} {m : Nat} {l' : List (Nat × Value)} (hp : ∀ m l w, J m l w → WP P n c l w Q) (hJ : J m l' w) (hs : Sb l l') : WP P n c l w Q := fun a ha => hp m l' w hJ a (ha.sb hs)
theorem WH.dn {S : World → Prop} {fuel : Nat} {listed : Array Bool} {J : List (Nat × Value) → World → Prop} {l' : List (Nat × Value)} (hJ : J l' w) (hs : Sb l l') (hr : Region.ready .any ops listed = []) : WH P n ops (JK n J) S fuel listed l w := fun _ ha => wpAnyH_done hr ⟨l', ha.sb hs, hJ⟩ fuel
end

theorem Ev.subN {P : Program} {n : Cx} {l : List (Nat × Value)} {w : World} {t ty : TypeId} {x y : Operand} {a b : Nat} {z : Int} (hx : evl l x = some (.int .i64 (a : Int))) (hy : evl l y = some (.int .i64 z)) (hz : z = (b : Int)) (h : b ≤ a) (h2 : a ≤ 9223372036854775807) : Ev P n l w (.binOp .sub t x y ty) (.int .i64 ((a - b : Nat) : Int)) := by
  subst hz
  have := Ev.sub (P := P) (n := n) (w := w) (t := t) (ty := ty) hx hy (I64.mk (by omega) (by omega))
  rwa [show (a : Int) - (b : Int) = ((a - b : Nat) : Int) from by omega] at this
/-! ### memory -/
theorem Wr.of_grown {b w w' : World} {W : Nat → Prop} {X : Option Nat} (h : Grw w w' X) (hX : ∀ g, X = some g → W g) : Wr b w w' W :=
  ⟨h.os, h.tape, h.output, h.size, fun k hk hn => h.block k hk (fun e => hn (hX k e.symm)), h.drawn⟩
theorem Wr.of_mod {b w w' : World} {W : Nat → Prop} {g : Nat} (h : Mod g w w') (hX : W g) : Wr b w w' W :=
  ⟨h.os, h.tape, h.output, h.size, fun k hk hn => h.block k hk (fun e => hn (e ▸ hX)), h.drawn⟩
section
variable {P : Program} {n : Cx} {l : List (Nat × Value)} {b w : World} {S : Nat → Prop} {rs rest : List Res} {Q : Exit → Act → World → Prop} {K : Act → World → Prop} {ops : Array Oper} {os : List Oper} {ty : TypeId} {pos : String} {aft : Array Edge} {d : Nat}

theorem bx {t : TypeId} {x : Operand} {v : Value} {cs : List Value} (hx : evd n l d x = some v) (hcs : v.cells = cs.toArray) (H : Hp b S w rs)
    (k : ∀ g w', Hp b S w' (rBx g t cs :: rs) → WL P n ops Q K os ((d, .pointer (some ⟨g, 0, none⟩)) :: l) w') : WL P n ops Q K (⟨some d, .box t x, ty, pos, aft, none⟩ :: os) l w :=
  WL.box (evd_blt hx).2 hcs (evd_blt hx).1 fun w' e hb hz => k _ w' (H.new (r := rBx w.heap.size t cs) e (fun g hg => by show _ ∧ _; rw [show g = w.heap.size from hg]; omega) hb)
theorem al {t : TypeId} {z : Value} {cs : List Value} (hz : ∀ w, (zeroValue t).run P w = .ok z w) (hcs : z.cells = cs.toArray) (H : Hp b S w rs)
    (k : ∀ g w', Hp b S w' (rBx g t cs :: rs) → WL P n ops Q K os ((d, .pointer (some ⟨g, 0, none⟩)) :: l) w') (hd : Nat.blt d n.size = true := by rfl) : WL P n ops Q K (⟨some d, .alloc t, ty, pos, aft, none⟩ :: os) l w :=
  WL.alloc hz hcs hd fun w' e hb hz => k _ w' (H.new (r := rBx w.heap.size t cs) e (fun g hg => by show _ ∧ _; rw [show g = w.heap.size from hg]; omega) hb)
/-- one element, to be appended, or read -/
theorem bs1 {α : Type} {τ : Ty α} {t e : TypeId} {m : Nat} {parts : List (Nat × Operand)} {vs : List (Nat × Value)} {cs : List Value} {x : α} (hx : evps l parts = some vs)
    (hb : ∀ w, (Instr.buildSlice t m vs.toArray).run P w = .ok (.slice (some ⟨w.heap.size, 0, none⟩) m m) (w.alloc (.cells cs.toArray e))) (hm : m = 1) (H : Hp b S w rs) (hR : ∀ w', Ext w w' → τ.R (Rd b S rs w) w' x cs)
    (k : ∀ g w', Hp b S w' (rOwn τ e (some ⟨g, 0, none⟩) 1 [x] :: rs) → WL P n ops Q K os ((d, .slice (some ⟨g, 0, none⟩) [x].length 1) :: l) w') (hd : Nat.blt d n.size = true := by rfl) : WL P n ops Q K (⟨some d, .buildSlice t m parts.toArray, ty, pos, aft, none⟩ :: os) l w := by
  subst hm
  have hl : cs.length = τ.k := τ.len (hR w (Ext.refl w))
  refine WL.buildSlice (k := τ.k) hx hb hd (by omega) fun w' ex hb' hz => k _ w' (H.new (r := rOwn τ e (some ⟨w.heap.size, 0, none⟩) 1 [x]) ex (fun g hg => ?_) (hb'.own_one (hR w' ex) (Nat.zero_le _)))
  have : w.heap.size = g := by simpa [rOwn, blk] using hg
  omega
theorem bs0 {α : Type} {τ : Ty α} {t e : TypeId} {m : Nat} {parts : List (Nat × Operand)} {vs : List (Nat × Value)} (hx : evps l parts = some vs)
    (hb : ∀ w, (Instr.buildSlice t m vs.toArray).run P w = .ok (.slice (some ⟨w.heap.size, 0, none⟩) m m) (w.alloc (.cells #[] e))) (hm : m = 0) (H : Hp b S w rs)
    (k : ∀ g w', Hp b S w' (rOwn τ e (some ⟨g, 0, none⟩) 0 [] :: rs) → WL P n ops Q K os ((d, .slice (some ⟨g, 0, none⟩) ([] : List α).length 0) :: l) w') (hd : Nat.blt d n.size = true := by rfl) : WL P n ops Q K (⟨some d, .buildSlice t m parts.toArray, ty, pos, aft, none⟩ :: os) l w := by
  subst hm
  refine WL.buildSlice (k := τ.k) (cs := []) hx hb hd (by simp) fun w' ex hb' hz => k _ w' (H.new (r := rOwn τ e (some ⟨w.heap.size, 0, none⟩) 0 []) ex (fun g hg => ?_) (hb'.own_empty (Nat.zero_le _)))
  have : w.heap.size = g := by simpa [rOwn, blk] using hg
  omega
def All2 {α : Type} (τ : Ty α) (S : Nat → Prop) (w : World) : List α → List (List Value) → Prop
  | [], [] => True
  | x :: xs, cs :: css => τ.R S w x cs ∧ All2 τ S w xs css
  | _, _ => False
theorem All2.spec {α : Type} {τ : Ty α} {S : Nat → Prop} {w : World} : ∀ {xs : List α} {css : List (List Value)}, All2 τ S w xs css → css.length = xs.length ∧ css.flatten.length = xs.length * τ.k ∧ ∀ (i : Nat) (x : α), xs[i]? = some x → ∃ cs, css[i]? = some cs ∧ τ.R S w x cs
  | [], [], _ => ⟨rfl, by simp, fun i x h => by simp at h⟩
  | [], _ :: _, h => h.elim
  | _ :: _, [], h => h.elim
  | x :: xs, cs :: css, h => by
    obtain ⟨h1, h3, h2⟩ := h.2.spec
    have h4 := τ.len h.1
    refine ⟨by simp [h1], by simp [h3, h4, Nat.add_mul]; omega, fun i y hy => ?_⟩
    cases i with
    | zero => simp at hy; subst hy; exact ⟨cs, rfl, h.1⟩
    | succ i => simpa using h2 i y (by simpa using hy)
/-- several elements, as they are written -/
theorem bsn {α : Type} {τ : Ty α} {t e : TypeId} {m : Nat} {parts : List (Nat × Operand)} {vs : List (Nat × Value)} {css : List (List Value)} {xs : List α} (hx : evps l parts = some vs)
    (hb : ∀ w, (Instr.buildSlice t m vs.toArray).run P w = .ok (.slice (some ⟨w.heap.size, 0, none⟩) m m) (w.alloc (.cells css.flatten.toArray e))) (hm : m = xs.length) (hm1 : Nat.ble m 100000 = true) (H : Hp b S w rs) (hR : ∀ w', Ext w w' → All2 τ (Rd b S rs w) w' xs css)
    (k : ∀ g w', Hp b S w' (rOwn τ e (some ⟨g, 0, none⟩) m xs :: rs) → WL P n ops Q K os ((d, .slice (some ⟨g, 0, none⟩) xs.length m) :: l) w') (hd : Nat.blt d n.size = true := by rfl) : WL P n ops Q K (⟨some d, .buildSlice t m parts.toArray, ty, pos, aft, none⟩ :: os) l w := by
  subst hm
  have hm2 : xs.length ≤ 100000 := Nat.le_of_ble_eq_true hm1
  obtain ⟨h1, h2, _⟩ := (hR w (Ext.refl w)).spec
  refine WL.buildSlice (k := τ.k) (cs := css.flatten) hx hb hd (by rw [h2]) fun w' ex hb' hz => k _ w' (H.new (r := rOwn τ e (some ⟨w.heap.size, 0, none⟩) xs.length xs) ex (fun g hg => ?_) ?_)
  · have : w.heap.size = g := by simpa [rOwn, blk] using hg
    omega
  · have h3 := (hR w' ex).spec
    refine ⟨css, h3.1, h3.2.2, ?_⟩
    exact ⟨h2, .inr ⟨w.heap.size, xs.length, css.flatten.toArray, rfl, Nat.zero_le _, hb', Nat.le_refl _, by simp only [maxLen]; omega, by rw [List.size_toArray]; exact h2, by rw [← h2]; exact List.take_of_length_le (Nat.le_refl _)⟩⟩
theorem stc {t t' : TypeId} {x y : Operand} {g i : Nat} {v : Value} {cs : List Value} (hx : evl l x = some (.pointer (some ⟨g, i, none⟩))) (hy : evl l y = some v) (h1 : v.oneCell' = true) (hs : Size P t 1) (H : Hp b S w rs) (s : Sel rs (rBx g t' cs) rest) (hi : Nat.blt i cs.length = true)
    (k : ∀ w', Hp b S w' (rBx g t' (cs.set i v) :: rest) → WL P n ops Q K os l w') : WL P n ops Q K (⟨none, .store t x y, ty, pos, aft, none⟩ :: os) l w :=
  WL.storeCell hx hy h1 hs (H.x s) (by simpa [Nat.blt_eq] using hi) fun w' m hb hz => k w' ((H.sel s).put (r' := rBx g t' (cs.set i v)) (Wr.of_mod m rfl) (fun g hg => .inl hg) hb)
theorem stw {t t' : TypeId} {x y : Operand} {g : Nat} {v : Value} {cs ds : List Value} (hx : evl l x = some (.pointer (some ⟨g, 0, none⟩))) (hy : evl l y = some v) (hv : v.cells = ds.toArray) (hs : Size P t ds.length) (H : Hp b S w rs) (s : Sel rs (rBx g t' cs) rest) (hl : cs.length = ds.length) (h1 : ds.all (fun u => u.oneCell') = true)
    (k : ∀ w', Hp b S w' (rBx g t' ds :: rest) → WL P n ops Q K os l w') : WL P n ops Q K (⟨none, .store t x y, ty, pos, aft, none⟩ :: os) l w :=
  WL.storeBox hx hy hv hs (H.x s) hl (fun u hu => List.all_eq_true.1 h1 u hu) fun w' m hb hz => k w' ((H.sel s).put (r' := rBx g t' ds) (Wr.of_mod m rfl) (fun g hg => .inl hg) hb)

/-- an own row that was written becomes this -/
theorem Hp.own {α β : Type} {τ : Ty α} {τ' : Ty β} {e : TypeId} {A A' : Option Addr} {c c' lo : Nat} {xs : List α} {ys : List β} {w' : World} (H : Hp b S w (rOwn τ e A c xs :: rest)) (hg : Grw w w' (blk A)) (hA : ∀ g, blk A' = some g → blk A = some g ∨ w.heap.size ≤ g)
    (h : Own τ' e lo (Rd b S (rOwn τ e A c xs :: rest) w) w' A' c' ys) : Hp b S w' (rOwn τ' e A' c' ys :: rest) :=
  H.put (r' := rOwn τ' e A' c' ys) (Wr.of_grown hg (fun g hX => hX)) (fun g hg' => by
    rcases hA g hg' with h1 | h1
    · exact .inl h1
    · exact .inr ⟨h1, (h.blk_lt g hg').2⟩) (h.low (Nat.zero_le _) (fun _ hb => hb))
theorem Hp.notRd {r : Res} (H : Hp b S w rs) (s : Sel rs r rest) : ∀ g, r.W g → ¬ Rd b S rs w g := by
  have hm : r ∈ rs := s.perm.mem_iff.2 (by simp)
  rintro g hg (⟨h1, _⟩ | ⟨_, _, h3⟩)
  · have := (H.lo r hm g hg).1; omega
  · exact h3 r hm hg
/-- append, to an own row -/
theorem apd {α : Type} {τ : Ty α} {t e : TypeId} {bytes : Nat} {A B : Option Addr} {c c2 : Nat} {xs ys : List α} {s x : Operand} (H : Hp b S w rs) (se : Sel rs (rOwn τ e A c xs) rest) (hs : evd n l d s = some (.slice A xs.length c)) (hx : evl l x = some (.slice B ys.length c2))
    (hy : Sl τ (Rd b S rs w) w B c2 ys) (hT : P.underlying t = some (.slice e)) (hI : ElemInfo P e τ.k bytes)
    (hm1 : xs.length ≤ 1000000) (hm2 : ys.length ≤ 1000000) (hby : Nat.ble bytes 1000 = true)
    (k : ∀ A' c' w', Hp b S w' (rOwn τ e A' c' (xs ++ ys) :: rest) → WL P n ops Q K os ((d, .slice A' (xs ++ ys).length c') :: l) w') :
    WL P n ops Q K (⟨some d, .call ⟨.builtin .append, #[s, x], #[t, t]⟩, ty, pos, aft, none⟩ :: os) l w := by
  have H1 := H.sel se
  have hsub : ∀ g, Rd b S rs w g → Rd b S (rOwn τ e A c xs :: rest) w g := Rd.perm se.perm
  refine WL.app (evd_blt hs).2 hx (H1.ow s0) (hy.sub hsub) hT hI (fun _ _ _ h => h) (fun g hA => H1.notRd s0 g hA) hm1 hm2 hby H1.ext.size (evd_blt hs).1 fun A' c' w' ho hg hat => k A' c' w' (H1.own hg (fun g hg' => ?_) ho)
  rcases hat with hat | hat
  · exact .inl (hat ▸ hg')
  · rw [hat] at hg'; cases hg'; exact .inr (Nat.le_refl _)
theorem Sl.flat {α : Type} {τ : Ty α} [Flat τ] {S S' : Nat → Prop} {w : World} {A : Option Addr} {c : Nat} {xs : List α} (h : Sl τ S w A c xs) (hS : xs ≠ [] → S' (adr A).block) : Sl τ S' w A c xs :=
  ⟨h.cap, h.max, h.nil, fun i x hx => by
    obtain ⟨_, cs, h2, h3⟩ := h.rows i x hx
    exact ⟨hS (fun e => by subst e; simp at hx), cs, Flat.h h2, h3⟩⟩
theorem ap {α : Type} {τ : Ty α} [Flat τ] {t e : TypeId} {bytes : Nat} {A B : Option Addr} {c c2 : Nat} {xs ys : List α} {s x : Operand} {S2 : Nat → Prop} (H : Hp b S w rs) (se : Sel rs (rOwn τ e A c xs) rest) (hs : evd n l d s = some (.slice A xs.length c)) (hx : evl l x = some (.slice B ys.length c2))
    (hy : Sl τ S2 w B c2 ys) (hT : P.underlying t = some (.slice e)) (hI : ElemInfo P e τ.k bytes)
    (hm1 : xs.length ≤ 1000000) (hm2 : ys.length ≤ 1000000) (hby : Nat.ble bytes 1000 = true)
    (k : ∀ A' c' w', Hp b S w' (rOwn τ e A' c' (xs ++ ys) :: rest) → WL P n ops Q K os ((d, .slice A' (xs ++ ys).length c') :: l) w') :
    WL P n ops Q K (⟨some d, .call ⟨.builtin .append, #[s, x], #[t, t]⟩, ty, pos, aft, none⟩ :: os) l w := by
  have H1 := H.sel se
  refine WL.app (S2 := S2) (evd_blt hs).2 hx (H1.ow s0) hy hT hI (fun _ _ _ h => Flat.h h) (fun g hA => H1.notRd s0 g hA) hm1 hm2 hby H1.ext.size (evd_blt hs).1 fun A' c' w' ho hg hat => k A' c' w' (H1.own hg (fun g hg' => ?_) ho)
  rcases hat with hat | hat
  · exact .inl (hat ▸ hg')
  · rw [hat] at hg'; cases hg'; exact .inr (Nat.le_refl _)
/-- 'append(nil, make([]T, n)...)', cut back to nothing -/
theorem apz {α : Type} (τ : Ty α) {t e ti : TypeId} {bytes m : Nat} {s x : Operand} (hs : evd n l d s = some (.slice none 0 0)) (hx : evl l x = some (.int .i64 (m : Int))) (hT : P.underlying t = some (.slice e)) (hi : P.underlying ti = some (.int .i64)) (hI : ElemInfo P e τ.k bytes) (h0 : 0 < m) (hm : m ≤ 1000000) (hby : Nat.ble bytes 1000 = true) (H : Hp b S w rs)
    (k : ∀ g c w', Hp b S w' (rOwn τ e (some ⟨g, 0, none⟩) c [] :: rs) → WL P n ops Q K os ((d, .slice (some ⟨g, 0, none⟩) m c) :: l) w') :
    WL P n ops Q K (⟨some d, .call ⟨.builtin .append, #[s, x], #[t, ti]⟩, ty, pos, aft, none⟩ :: os) l w :=
  WL.appendZeros τ (evd_blt hs).2 hx hT hi hI h0 hm hby (evd_blt hs).1 fun g c w' ex ho => k g c w' (H.new (r := rOwn τ e (some ⟨g, 0, none⟩) c []) ex (fun g' hg' => by
    have h1 := ho.blk_lt g' hg'; omega) (ho.low (Nat.zero_le _) (fun _ h => h.elim)))
/-- a field of an element of an own row is written -/
theorem se {α : Type} {τ : Ty α} {e t : TypeId} {f i c : Nat} {A : Option Addr} {xs : List α} {x x' : α} {v : Value} {ds : List Value} {p y : Operand} {q : Addr} (H : Hp b S w rs) (s : Sel rs (rOwn τ e A c xs) rest) (hp : evl l p = some (.pointer (some q))) (hy : evl l y = some v) (hq : q = (adr A).add (i * τ.k + f))
    (hx : xs[i]? = some x) (hv : v.cells = ds.toArray) (hs : Size P t ds.length)
    (hf : f + ds.length ≤ τ.k) (h1 : ds.all (fun u => u.oneCell') = true) (hR : ∀ w' cs, (∀ {β : Type} {σ : Ty β} {B : Option Addr} {d : Nat} {zs : List β}, Sl σ (Rd b S rs w) w B d zs → Sl σ (Rd b S rs w) w' B d zs) → τ.R (Rd b S rs w) w x cs → τ.R (Rd b S rs w) w' x' (overlay cs f ds))
    (kk : ∀ w', Hp b S w' (rOwn τ e A c (xs.set i x') :: rest) → WL P n ops Q K os l w') : WL P n ops Q K (⟨none, .store t p y, ty, pos, aft, none⟩ :: os) l w := by
  have H1 := H.sel s
  have hsub : ∀ g, Rd b S rs w g → Rd b S (rOwn τ e A c xs :: rest) w g := Rd.perm s.perm
  have hsub' : ∀ g, Rd b S (rOwn τ e A c xs :: rest) w g → Rd b S rs w g := Rd.perm s.perm.symm
  refine WL.storeElem (S := Rd b S (rOwn τ e A c xs :: rest) w) hp hy hq (H1.ow s0) hx hv hs hf (fun u hu => List.all_eq_true.1 h1 u hu) (fun g hA => H1.notRd s0 g hA) (fun w' cs hg hr => τ.sub hsub (hR w' cs ?_ (τ.sub hsub' hr))) fun w' ho hg hz => kk w' (H1.own hg (fun g hg' => .inl hg') ho)
  intro β σ B d zs hsl
  exact hsl.keep fun k hk hlt => hg.block k hlt fun e => H.notRd s k e.symm hk
/-- the part of an own row that is kept -/
theorem Hp.cutOwn {α : Type} {τ : Ty α} {e : TypeId} {A : Option Addr} {c hi : Nat} {xs : List α} (H : Hp b S w rs) (s : Sel rs (rOwn τ e A c xs) rest) (h : hi ≤ xs.length) : Hp b S w (rOwn τ e A c (xs.take hi) :: rest) :=
  (H.sel s).put (r' := rOwn τ e A c (xs.take hi)) ⟨rfl, rfl, rfl, Nat.le_refl _, fun _ _ _ => rfl, Nat.le_refl _⟩ (fun g hg => .inl hg) (Own.take ((H.sel s).ok (rOwn τ e A c xs) (by simp)) h)
/-- an element's cells, and what lies behind them -/
theorem Sl.row {α : Type} {τ : Ty α} {A : Option Addr} {c i : Nat} {xs : List α} {x : α} (h : Sl τ S w A c xs) (hx : xs[i]? = some x) : ∃ cs, τ.R S w x cs ∧ ∀ j u, cs[j]? = some u → w.cell? ((adr A).add (i * τ.k + j)) = some u := (h.rows i x hx).2
theorem Hp.oi {α : Type} {τ : Ty α} {e : TypeId} {A : Option Addr} {c i : Nat} {xs : List α} {x : α} (H : Hp b S w rs) (s : Sel rs (rOwn τ e A c xs) rest) (hx : xs[i]? = some x) : ∃ cs, τ.R (Rd b S rs w) w x cs ∧ ∀ j u, cs[j]? = some u → w.cell? ((adr A).add (i * τ.k + j)) = some u := by
  obtain ⟨css, hl, hR, hown⟩ := H.ow s
  obtain ⟨cs, h1, h2⟩ := hR i x hx
  have hk := css_len hl hR
  refine ⟨cs, h2, fun j u hu => ?_⟩
  rcases hown.2 with ⟨hv, hn⟩ | ⟨g, cap, cur, hv, hg, hh, hnc, hcm, hcs, ht⟩
  · have := lt_of_get hx; omega
  · injection hv with hA hn' hc
    subst hA hc
    exact hown.cells (g := g) rfl _ _ (flat_at css hk i cs h1 j u hu)
theorem Hp.is {α : Type} {τ : Ty α} {A : Option Addr} {c i : Nat} {xs : List α} {x : α} (H : Hp b S w rs) (s : Sel rs (rSl τ A c xs) rest) (hx : xs[i]? = some x) : ∃ cs, τ.R (Rd b S rs w) w x cs ∧ ∀ j u, cs[j]? = some u → w.cell? ((adr A).add (i * τ.k + j)) = some u := (H.s s).row hx
theorem list_op {α : Type} {τ : Ty α} {a : Addr} {i : Nat} {xs : List α} (h : ∃ cs, (Ty.list τ).R S w xs cs ∧ ∀ j u, cs[j]? = some u → w.cell? (a.add (i * 1 + j)) = some u) :
    ∃ B d, w.cell? (a.add (i * 1)) = some (.slice B xs.length d) ∧ Sl τ S w B d xs := by
  obtain ⟨cs, ⟨B, d, rfl, h2⟩, h3⟩ := h
  exact ⟨B, d, h3 0 _ rfl, h2⟩
theorem rowat {a : Addr} {i k : Nat} {cs : List Value} (h : ∀ j u, cs[j]? = some u → w.cell? (a.add (i * k + j)) = some u) : ∀ j u, cs[j]? = some u → w.cell? ((a.add (i * k)).add j) = some u := fun j u hu => by rw [add_of_add]; exact h j u hu
/-- a row of one element, as a block -/
theorem Own.one_bx {α : Type} {τ : Ty α} {e : TypeId} {lo g : Nat} {x : α} (h : Own τ e lo S w (some ⟨g, 0, none⟩) 1 [x]) : ∃ cs, Bx w g e cs ∧ τ.R S w x cs := by
  obtain ⟨css, hl, hR, hown⟩ := h
  obtain ⟨cs, h1, h2⟩ := hR 0 x rfl
  have h3 : css = [cs] := by
    cases css with
    | nil => simp at hl
    | cons c0 css => cases css with
      | nil => simp at h1; rw [h1]
      | cons _ _ => simp at hl
  subst h3
  have hk := τ.len h2
  rcases hown.2 with ⟨hv, _⟩ | ⟨g', cap, cur, hv, hg, hh, hnc, hcm, hcs, ht⟩
  · cases hv
  · injection hv with hA hn' hc
    injection hA with hA
    injection hA with hA
    subst hA hc
    refine ⟨cs, ?_, h2⟩
    have h4 : cur.toList = cs := by
      have h5 : cur.toList.length = τ.k := by simpa using hcs
      have h6 : cur.toList.take (1 * τ.k) = cs := by simpa using ht
      rw [List.take_of_length_le (by omega)] at h6
      exact h6
    unfold Bx
    rw [hh, ← h4]
theorem Hp.ne_blk {α β : Type} {τ : Ty α} {σ : Ty β} {e e' : TypeId} {A B : Option Addr} {c c' : Nat} {xs : List α} {ys : List β} {rest2 : List Res} (H : Hp b S w rs) (s : Sel rs (rOwn τ e A c xs) rest) (s' : Sel rest (rOwn σ e' B c' ys) rest2) {g : Nat} (hg : blk B = some g) : blk A ≠ some g :=
  fun h => (List.pairwise_cons.1 (H.sel s).dis).1 (rOwn σ e' B c' ys) (s'.perm.mem_iff.2 (by simp)) g h hg
/-- an own row that a library function wrote, cell by cell -/
theorem Hp.raw {α : Type} {τ : Ty α} {e : TypeId} {A : Option Addr} {c : Nat} {xs : List α} (H : Hp b S w rs) (s : Sel rs (rOwn τ e A c xs) rest) : ∃ us : List (Cells τ.k), Own (tRaw τ.k τ.pos) e b.heap.size No w A c us ∧ Rel τ (Rd b S rs w) w xs us := (H.ow s).raw
theorem Hp.back {α β : Type} {τ : Ty α} {e : TypeId} {A A' : Option Addr} {c c' lo : Nat} {xs ys : List α} {vs : List (Cells τ.k)} {w' : World} {S' : Nat → Prop} (H : Hp b S w rs) (s : Sel rs (rOwn τ e A c xs) rest) (hO : Own (tRaw τ.k τ.pos) e lo S' w' A' c' vs) (hr : Rel τ (Rd b S rs w) w ys vs) (hg : Grw w w' (blk A)) (hA : ∀ g, blk A' = some g → blk A = some g ∨ w.heap.size ≤ g) : Hp b S w' (rOwn τ e A' c' ys :: rest) := by
  have hsub : ∀ g, Rd b S rs w g → Rd b S (rOwn τ e A c xs :: rest) w g := Rd.perm s.perm
  exact (H.sel s).own hg hA (hO.ofRaw ((hr.sub hsub).grown hg (fun g hA => (H.sel s).notRd s0 g hA)))
theorem WH.tk {rk : List Res} {fuel : Nat} {listed : Array Bool} (i : Nat) {op : Op} {d : Nat} {v : Value} (hi : ops[i]? = some ⟨some d, op, ty, pos, aft, none⟩) (hs : Region.noSelect ops = true) (hf : Region.free .any ops listed i = true)
    (hr : (Region.ready .any ops listed).contains i = true) (he : ∀ w', Hp b S w' rk → Ev P n l w' op v) (hd : Nat.blt d n.size = true) (hw : Hp b S w rk) (k : WH P n ops K (fun w' => Hp b S w' rk) fuel (listed.setIfInBounds i true) ((d, v) :: l) w) :
    WH P n ops K (fun w' => Hp b S w' rk) (fuel + 1) listed l w := fun a ha =>
  wpAnyH_take hi hs hf hr (fun _ _ _ h => h) (.inl ⟨wanted_none a, fun w' hw' => he w' hw' _ a w' rfl ha (Ext.refl w')⟩) hw (k _ (ha.put hd v))
theorem WH.tkg {rk : List Res} {fuel : Nat} {listed : Array Bool} (i : Nat) {op : Op} {d j : Nat} {want : Bool} {v : Value} (hi : ops[i]? = some ⟨some d, op, ty, pos, aft, some (j, want)⟩) (hg : guardOf ops l j = some (.bool want)) (hs : Region.noSelect ops = true) (hf : Region.free .any ops listed i = true)
    (hr : (Region.ready .any ops listed).contains i = true) (he : ∀ w', Hp b S w' rk → Ev P n l w' op v) (hd : Nat.blt d n.size = true) (hw : Hp b S w rk) (k : WH P n ops K (fun w' => Hp b S w' rk) fuel (listed.setIfInBounds i true) ((d, v) :: l) w) :
    WH P n ops K (fun w' => Hp b S w' rk) (fuel + 1) listed l w := fun a ha =>
  wpAnyH_take hi hs hf hr (fun _ _ _ h => h) (.inl ⟨wanted_some hg a ha, fun w' hw' => he w' hw' _ a w' rfl ha (Ext.refl w')⟩) hw (k _ (ha.put hd v))
end
end Go.Proofs.YtlnjmkmhmbijmaaGreat
