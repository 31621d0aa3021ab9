/- Rules over what a walk holds of memory, and short names for the steps. -/
import Derived.RangeFuncSeq
import Derived.RangeFuncLeaves
import Derived.Shelf.SlSortCmp.NoneTotal
import Derived.Shelf.Sort.Plain
import Derived.Shelf.Slices.In.SortNone
import Derived.Sort.OwnSortedInts
import Derived.Shelf.Slices.CompactI
import Derived.MapKept
import Derived.Test.YtjcklpooaaaglaaGreatrG1
set_option linter.all false
namespace Go.Proofs.YtjcklpooaaaglaaGreat
open Go.RowKit

/-! ### frames -/
/-- the slots of l' hold in l what l' says -/
def Sb (l l' : List (Nat × Value)) : Prop := l'.map (fun p => look l p.1) = l'.map (fun p => look l' p.1)
theorem look_mem : ∀ {l : List (Nat × Value)} {i : Nat} {v : Value}, look l i = some v → ∃ p ∈ l, p.1 = i
  | [], i, v, h => by simp [look] at h
  | p :: l, i, v, h => by
    unfold look at h
    cases hb : Nat.beq p.1 i with
    | true => exact ⟨p, by simp, Nat.eq_of_beq_eq_true hb⟩
    | false => simp [hb] at h; obtain ⟨q, hq, e⟩ := look_mem h; exact ⟨q, by simp [hq], e⟩
theorem Sb.look_ {l l' : List (Nat × Value)} (h : Sb l l') {i : Nat} {v : Value} (hv : look l' i = some v) : look l i = some v := by
  obtain ⟨p, hp, rfl⟩ := look_mem hv
  have := List.map_inj_left.1 h p hp
  rw [this]; exact hv
theorem Has.sb {n : Cx} {l l' : List (Nat × Value)} {a : Act} (h : Has n l a) (hs : Sb l l') : Has n l' a := ⟨h.defers, h.size, fun i v hv => h.get i v (hs.look_ hv)⟩
def evd (n : Cx) (l : List (Nat × Value)) (d : Nat) (x : Operand) : Option Value := bif Nat.blt d n.size then evl l x else none
theorem evd_blt {n : Cx} {l : List (Nat × Value)} {d : Nat} {x : Operand} {v : Value} (h : evd n l d x = some v) : Nat.blt d n.size = true ∧ evl l x = some v := by
  unfold evd at h
  cases hb : Nat.blt d n.size with
  | false => rw [hb] at h; cases h
  | true => rw [hb] at h; exact ⟨rfl, h⟩

section
variable {P : Program} {n : Cx} {l l' : List (Nat × Value)} {w w' : World} {Q : Exit → Act → World → Prop} {K : Act → World → Prop} {ops : Array Oper} {os : List Oper} {ty t : TypeId} {pos : String} {aft : Array Edge} {d : Nat} {x y : Operand} {v : Value}
theorem rg {ol : List Oper} {id : Nat} {y : Code} (h : WL P n ol.toArray (Exit.then (cwp P n y Q) Q) (cwp P n y Q) ol l w) (hp : n.plain = false := by rfl) : WP P n (.seq (.region id ol.toArray false) y) l w Q := WP.region h hp
theorem rge {ol : List Oper} {id : Nat} (h : WL P n ol.toArray Q (Q .normal) ol l w) (hp : n.plain = false := by rfl) : WP P n (.region id ol.toArray false) l w Q := WP.region_end h hp
theorem dn {y : Code} {Q' : Exit → Act → World → Prop} (h : WP P n y l w Q) : WL P n ops Q' (cwp P n y Q) [] l w := WL.done h
theorem dne {Q' : Exit → Act → World → Prop} (h : Pst n Q .normal l w) : WL P n ops Q' (Q .normal) [] l w := WL.done_end h
theorem ev {op : Op} (h : Ev P n l w op v) (k : WL P n ops Q K os ((d, v) :: l) w) (hd : Nat.blt d n.size = true := by rfl) : WL P n ops Q K (⟨some d, op, ty, pos, aft, none⟩ :: os) l w := WL.ev h hd k
theorem evg {op : Op} {j : Nat} {want : Bool} (h : Ev P n l w op v) (k : WL P n ops Q K os ((d, v) :: l) w) (hg : guardOf ops l j = some (.bool want) := by rfl) (hd : Nat.blt d n.size = true := by rfl) : WL P n ops Q K (⟨some d, op, ty, pos, aft, some (j, want)⟩ :: os) l w := WL.evg hg h hd k
theorem mv (h : evd n l d x = some v) (k : WL P n ops Q K os ((d, v) :: l) w) : WL P n ops Q K (⟨some d, .move x, ty, pos, aft, none⟩ :: os) l w := WL.ev (Ev.move (evd_blt h).2) (evd_blt h).1 k
theorem as_ (h : evd n l d x = some v) (k : WL P n ops Q K os ((d, v) :: l) w) : WL P n ops Q K (⟨some d, .assign x, ty, pos, aft, none⟩ :: os) l w := WL.ev (Ev.assign (evd_blt h).2) (evd_blt h).1 k
theorem xt {vs : List Value} {i : Nat} (h : evd n l d x = some (.tuple vs.toArray)) (hi : vs[i]? = some v) (k : WL P n ops Q K os ((d, v) :: l) w) : WL P n ops Q K (⟨some d, .extract x i, ty, pos, aft, none⟩ :: os) l w := WL.ev (Ev.extract (evd_blt h).2 hi) (evd_blt h).1 k
section
variable {k : IntKind} {a b : Int}
theorem lss (hx : evd n l d x = some (.int k a)) (hy : evl l y = some (.int k b)) (kk : WL P n ops Q K os ((d, .bool (decide (a < b))) :: l) w) : WL P n ops Q K (⟨some d, .binOp .lss t x y ty, ty, pos, aft, none⟩ :: os) l w := WL.ev (Ev.lss (evd_blt hx).2 hy) (evd_blt hx).1 kk
end
theorem WL.cutb (m d : Nat) (r : Bool) (h : WL P n ops Q (fun a' w' => Has n ((d, .bool r) :: l) a' ∧ w' = w) (os.take m) l w) (k : WL P n ops Q K (os.drop m) ((d, .bool r) :: l) w) : WL P n ops Q K os l w := WL.cut m _ h k
theorem WQ.cutb {Qa : Act → Prop} (m d : Nat) (r : Bool) (h : WQ P n ops w (fun a' => Has n ((d, .bool r) :: l) a') (os.take m) l) (k : WQ P n ops w Qa (os.drop m) ((d, .bool r) :: l)) : WQ P n ops w Qa os l := WQ.cut m _ h k
theorem WL.cutbW (m d : Nat) (r : Bool) (h : WL P n ops Q (fun a' w' => Has n ((d, .bool r) :: l) a' ∧ Ext w w') (os.take m) l w) (k : ∀ w', Ext w w' → WL P n ops Q K (os.drop m) ((d, .bool r) :: l) w') : WL P n ops Q K os l w := WL.cutW m _ h k
theorem WL.cend {l1 : List (Nat × Value)} (hs : Sb l l1) : WL P n ops Q (fun a' w' => Has n l1 a' ∧ w' = w) [] l w := fun _ ha => ⟨ha.sb hs, rfl⟩
theorem WQ.cend {l1 : List (Nat × Value)} (hs : Sb l l1) : WQ P n ops w (fun a' => Has n l1 a') [] l := fun _ ha => ha.sb hs
theorem WL.cendW {l1 : List (Nat × Value)} {w0 : World} (hs : Sb l l1) (he : Ext w0 w) : WL P n ops Q (fun a' w' => Has n l1 a' ∧ Ext w0 w') [] l w := fun _ ha => ⟨ha.sb hs, he⟩
theorem WP.keep' {c : Code} (l' : List (Nat × Value)) (hs : Sb l l') (h : WP P n c l' w Q) : WP P n c l w Q := fun a ha => h a (ha.sb hs)
theorem Pst.re {e : Exit} {t : Nat} {u v : Value} (hl : look l t = some u) (he : u = v) (k : Pst n Q e ((t, v) :: l) w) : Pst n Q e l w := fun a ha => k a (ha.set hl he)
theorem WP.lp {c : Code} (J : Nat → List (Nat × Value) → World → Prop) {m0 : Nat} {l0 : List (Nat × Value)} (h0 : J m0 l0 w) (hs : Sb l l0)
    (hr : ∀ m l w', J m l w' → WP P n c l w' (Exit.then (Again n J m) Q)) : WP P n (.loop c) l w Q := WP.loop J m0 l0 (fun _ ha => ha.sb hs) h0 hr
theorem Pst.ag {J : Nat → List (Nat × Value) → World → Prop} {m m' : Nat} {l' : List (Nat × Value)} (hJ : J m' l' w) (hs : Sb l l') (hm : m' < m) : Pst n (Exit.then (Again n J m) Q) .normal l w :=
  fun _ ha => ⟨m', l', hm, ha.sb hs, hJ⟩
theorem Pst.jag {lb : Nat} {J : Nat → List (Nat × Value) → World → Prop} {m m' : Nat} {l' : List (Nat × Value)} (hJ : J m' l' w) (hs : Sb l l') (hm : m' < m) : Pst n (Exit.jump lb (Again n J m) Q) (.goto lb) l w :=
  fun _ ha => ⟨rfl, m', l', hm, ha.sb hs, hJ⟩
theorem WP.kp {c : Code} {J : Nat → List (Nat × Value) → World → Prop} {m : Nat} {l' : List (Nat × Value)} (hp : ∀ m l w, J m l w → WP P n c l w Q) (hJ : J m l' w) (hs : Sb l l') : WP P n c l w Q := fun a ha => hp m l' w hJ a (ha.sb hs)
theorem WH.dn {S : World → Prop} {fuel : Nat} {listed : Array Bool} {J : List (Nat × Value) → World → Prop} {l' : List (Nat × Value)} (hJ : J l' w) (hs : Sb l l') (hr : Region.ready .any ops listed = []) : WH P n ops (JK n J) S fuel listed l w := fun _ ha => wpAnyH_done hr ⟨l', ha.sb hs, hJ⟩ fuel
end

theorem Ev.subN {P : Program} {n : Cx} {l : List (Nat × Value)} {w : World} {t ty : TypeId} {x y : Operand} {a b : Nat} {z : Int} (hx : evl l x = some (.int .i64 (a : Int))) (hy : evl l y = some (.int .i64 z)) (hz : z = (b : Int)) (h : b ≤ a) (h2 : a ≤ 9223372036854775807) : Ev P n l w (.binOp .sub t x y ty) (.int .i64 ((a - b : Nat) : Int)) := by
  subst hz
  have := Ev.sub (P := P) (n := n) (w := w) (t := t) (ty := ty) hx hy (I64.mk (by omega) (by omega))
  rwa [show (a : Int) - (b : Int) = ((a - b : Nat) : Int) from by omega] at this
/-! ### memory -/
theorem Wr.of_grown {b w w' : World} {W : Nat → Prop} {X : Option Nat} (h : Grw w w' X) (hX : ∀ g, X = some g → W g) : Wr b w w' W :=
  ⟨h.os, h.tape, h.output, h.size, fun k hk hn => h.block k hk (fun e => hn (hX k e.symm)), h.drawn⟩
theorem Wr.of_mod {b w w' : World} {W : Nat → Prop} {g : Nat} (h : Mod g w w') (hX : W g) : Wr b w w' W :=
  ⟨h.os, h.tape, h.output, h.size, fun k hk hn => h.block k hk (fun e => hn (e ▸ hX)), h.drawn⟩
section
variable {P : Program} {n : Cx} {l : List (Nat × Value)} {b w : World} {S : Nat → Prop} {rs rest : List Res} {Q : Exit → Act → World → Prop} {K : Act → World → Prop} {ops : Array Oper} {os : List Oper} {ty : TypeId} {pos : String} {aft : Array Edge} {d : Nat}

theorem bx {t : TypeId} {x : Operand} {v : Value} {cs : List Value} (hx : evd n l d x = some v) (hcs : v.cells = cs.toArray) (H : Hp b S w rs)
    (k : ∀ g w', Hp b S w' (rBx g t cs :: rs) → WL P n ops Q K os ((d, .pointer (some ⟨g, 0, none⟩)) :: l) w') : WL P n ops Q K (⟨some d, .box t x, ty, pos, aft, none⟩ :: os) l w :=
  WL.box (evd_blt hx).2 hcs (evd_blt hx).1 fun w' e hb hz => k _ w' (H.new (r := rBx w.heap.size t cs) e (fun g hg => by show _ ∧ _; rw [show g = w.heap.size from hg]; omega) hb)
theorem al {t : TypeId} {z : Value} {cs : List Value} (hz : ∀ w, (zeroValue t).run P w = .ok z w) (hcs : z.cells = cs.toArray) (H : Hp b S w rs)
    (k : ∀ g w', Hp b S w' (rBx g t cs :: rs) → WL P n ops Q K os ((d, .pointer (some ⟨g, 0, none⟩)) :: l) w') (hd : Nat.blt d n.size = true := by rfl) : WL P n ops Q K (⟨some d, .alloc t, ty, pos, aft, none⟩ :: os) l w :=
  WL.alloc hz hcs hd fun w' e hb hz => k _ w' (H.new (r := rBx w.heap.size t cs) e (fun g hg => by show _ ∧ _; rw [show g = w.heap.size from hg]; omega) hb)
/-- one element, to be appended, or read -/
theorem bs1 {α : Type} {τ : Ty α} {t e : TypeId} {m : Nat} {parts : List (Nat × Operand)} {vs : List (Nat × Value)} {cs : List Value} {x : α} (hx : evps l parts = some vs)
    (hb : ∀ w, (Instr.buildSlice t m vs.toArray).run P w = .ok (.slice (some ⟨w.heap.size, 0, none⟩) m m) (w.alloc (.cells cs.toArray e))) (hm : m = 1) (H : Hp b S w rs) (hR : ∀ w', Ext w w' → τ.R (Rd b S rs w) w' x cs)
    (k : ∀ g w', Hp b S w' (rOwn τ e (some ⟨g, 0, none⟩) 1 [x] :: rs) → WL P n ops Q K os ((d, .slice (some ⟨g, 0, none⟩) [x].length 1) :: l) w') (hd : Nat.blt d n.size = true := by rfl) : WL P n ops Q K (⟨some d, .buildSlice t m parts.toArray, ty, pos, aft, none⟩ :: os) l w := by
  subst hm
  have hl : cs.length = τ.k := τ.len (hR w (Ext.refl w))
  refine WL.buildSlice (k := τ.k) hx hb hd (by omega) fun w' ex hb' hz => k _ w' (H.new (r := rOwn τ e (some ⟨w.heap.size, 0, none⟩) 1 [x]) ex (fun g hg => ?_) (hb'.own_one (hR w' ex) (Nat.zero_le _)))
  have : w.heap.size = g := by simpa [rOwn, blk] using hg
  omega
theorem bs0 {α : Type} {τ : Ty α} {t e : TypeId} {m : Nat} {parts : List (Nat × Operand)} {vs : List (Nat × Value)} (hx : evps l parts = some vs)
    (hb : ∀ w, (Instr.buildSlice t m vs.toArray).run P w = .ok (.slice (some ⟨w.heap.size, 0, none⟩) m m) (w.alloc (.cells #[] e))) (hm : m = 0) (H : Hp b S w rs)
    (k : ∀ g w', Hp b S w' (rOwn τ e (some ⟨g, 0, none⟩) 0 [] :: rs) → WL P n ops Q K os ((d, .slice (some ⟨g, 0, none⟩) ([] : List α).length 0) :: l) w') (hd : Nat.blt d n.size = true := by rfl) : WL P n ops Q K (⟨some d, .buildSlice t m parts.toArray, ty, pos, aft, none⟩ :: os) l w := by
  subst hm
  refine WL.buildSlice (k := τ.k) (cs := []) hx hb hd (by simp) fun w' ex hb' hz => k _ w' (H.new (r := rOwn τ e (some ⟨w.heap.size, 0, none⟩) 0 []) ex (fun g hg => ?_) (hb'.own_empty (Nat.zero_le _)))
  have : w.heap.size = g := by simpa [rOwn, blk] using hg
  omega
def All2 {α : Type} (τ : Ty α) (S : Nat → Prop) (w : World) : List α → List (List Value) → Prop
  | [], [] => True
  | x :: xs, cs :: css => τ.R S w x cs ∧ All2 τ S w xs css
  | _, _ => False
theorem All2.spec {α : Type} {τ : Ty α} {S : Nat → Prop} {w : World} : ∀ {xs : List α} {css : List (List Value)}, All2 τ S w xs css → css.length = xs.length ∧ css.flatten.length = xs.length * τ.k ∧ ∀ (i : Nat) (x : α), xs[i]? = some x → ∃ cs, css[i]? = some cs ∧ τ.R S w x cs
  | [], [], _ => ⟨rfl, by simp, fun i x h => by simp at h⟩
  | [], _ :: _, h => h.elim
  | _ :: _, [], h => h.elim
  | x :: xs, cs :: css, h => by
    obtain ⟨h1, h3, h2⟩ := h.2.spec
    have h4 := τ.len h.1
    refine ⟨by simp [h1], by simp [h3, h4, Nat.add_mul]; omega, fun i y hy => ?_⟩
    cases i with
    | zero => simp at hy; subst hy; exact ⟨cs, rfl, h.1⟩
    | succ i => simpa using h2 i y (by simpa using hy)
/-- several elements, as they are written -/
theorem bsn {α : Type} {τ : Ty α} {t e : TypeId} {m : Nat} {parts : List (Nat × Operand)} {vs : List (Nat × Value)} {css : List (List Value)} {xs : List α} (hx : evps l parts = some vs)
    (hb : ∀ w, (Instr.buildSlice t m vs.toArray).run P w = .ok (.slice (some ⟨w.heap.size, 0, none⟩) m m) (w.alloc (.cells css.flatten.toArray e))) (hm : m = xs.length) (hm1 : Nat.ble m 100000 = true) (H : Hp b S w rs) (hR : ∀ w', Ext w w' → All2 τ (Rd b S rs w) w' xs css)
    (k : ∀ g w', Hp b S w' (rOwn τ e (some ⟨g, 0, none⟩) m xs :: rs) → WL P n ops Q K os ((d, .slice (some ⟨g, 0, none⟩) xs.length m) :: l) w') (hd : Nat.blt d n.size = true := by rfl) : WL P n ops Q K (⟨some d, .buildSlice t m parts.toArray, ty, pos, aft, none⟩ :: os) l w := by
  subst hm
  have hm2 : xs.length ≤ 100000 := Nat.le_of_ble_eq_true hm1
  obtain ⟨h1, h2, _⟩ := (hR w (Ext.refl w)).spec
  refine WL.buildSlice (k := τ.k) (cs := css.flatten) hx hb hd (by rw [h2]) fun w' ex hb' hz => k _ w' (H.new (r := rOwn τ e (some ⟨w.heap.size, 0, none⟩) xs.length xs) ex (fun g hg => ?_) ?_)
  · have : w.heap.size = g := by simpa [rOwn, blk] using hg
    omega
  · have h3 := (hR w' ex).spec
    refine ⟨css, h3.1, h3.2.2, ?_⟩
    exact ⟨h2, .inr ⟨w.heap.size, xs.length, css.flatten.toArray, rfl, Nat.zero_le _, hb', Nat.le_refl _, by simp only [maxLen]; omega, by rw [List.size_toArray]; exact h2, by rw [← h2]; exact List.take_of_length_le (Nat.le_refl _)⟩⟩
theorem stc {t t' : TypeId} {x y : Operand} {g i : Nat} {v : Value} {cs : List Value} (hx : evl l x = some (.pointer (some ⟨g, i, none⟩))) (hy : evl l y = some v) (h1 : v.oneCell' = true) (hs : Size P t 1) (H : Hp b S w rs) (s : Sel rs (rBx g t' cs) rest) (hi : Nat.blt i cs.length = true)
    (k : ∀ w', Hp b S w' (rBx g t' (cs.set i v) :: rest) → WL P n ops Q K os l w') : WL P n ops Q K (⟨none, .store t x y, ty, pos, aft, none⟩ :: os) l w :=
  WL.storeCell hx hy h1 hs (H.x s) (by simpa [Nat.blt_eq] using hi) fun w' m hb hz => k w' ((H.sel s).put (r' := rBx g t' (cs.set i v)) (Wr.of_mod m rfl) (fun g hg => .inl hg) hb)
theorem stw {t t' : TypeId} {x y : Operand} {g : Nat} {v : Value} {cs ds : List Value} (hx : evl l x = some (.pointer (some ⟨g, 0, none⟩))) (hy : evl l y = some v) (hv : v.cells = ds.toArray) (hs : Size P t ds.length) (H : Hp b S w rs) (s : Sel rs (rBx g t' cs) rest) (hl : cs.length = ds.length) (h1 : ds.all (fun u => u.oneCell') = true)
    (k : ∀ w', Hp b S w' (rBx g t' ds :: rest) → WL P n ops Q K os l w') : WL P n ops Q K (⟨none, .store t x y, ty, pos, aft, none⟩ :: os) l w :=
  WL.storeBox hx hy hv hs (H.x s) hl (fun u hu => List.all_eq_true.1 h1 u hu) fun w' m hb hz => k w' ((H.sel s).put (r' := rBx g t' ds) (Wr.of_mod m rfl) (fun g hg => .inl hg) hb)

/-- an own row that was written becomes this -/
theorem Hp.own {α β : Type} {τ : Ty α} {τ' : Ty β} {e : TypeId} {A A' : Option Addr} {c c' lo : Nat} {xs : List α} {ys : List β} {w' : World} (H : Hp b S w (rOwn τ e A c xs :: rest)) (hg : Grw w w' (blk A)) (hA : ∀ g, blk A' = some g → blk A = some g ∨ w.heap.size ≤ g)
    (h : Own τ' e lo (Rd b S (rOwn τ e A c xs :: rest) w) w' A' c' ys) : Hp b S w' (rOwn τ' e A' c' ys :: rest) :=
  H.put (r' := rOwn τ' e A' c' ys) (Wr.of_grown hg (fun g hX => hX)) (fun g hg' => by
    rcases hA g hg' with h1 | h1
    · exact .inl h1
    · exact .inr ⟨h1, (h.blk_lt g hg').2⟩) (h.low (Nat.zero_le _) (fun _ hb => hb))
theorem Hp.notRd {r : Res} (H : Hp b S w rs) (s : Sel rs r rest) : ∀ g, r.W g → ¬ Rd b S rs w g := by
  have hm : r ∈ rs := s.perm.mem_iff.2 (by simp)
  rintro g hg (⟨h1, _⟩ | ⟨_, _, h3⟩)
  · have := (H.lo r hm g hg).1; omega
  · exact h3 r hm hg
/-- append, to an own row -/
theorem apd {α : Type} {τ : Ty α} {t e : TypeId} {bytes : Nat} {A B : Option Addr} {c c2 : Nat} {xs ys : List α} {s x : Operand} (H : Hp b S w rs) (se : Sel rs (rOwn τ e A c xs) rest) (hs : evd n l d s = some (.slice A xs.length c)) (hx : evl l x = some (.slice B ys.length c2))
    (hy : Sl τ (Rd b S rs w) w B c2 ys) (hT : P.underlying t = some (.slice e)) (hI : ElemInfo P e τ.k bytes)
    (hm1 : xs.length ≤ 1000000) (hm2 : ys.length ≤ 1000000) (hby : Nat.ble bytes 1000 = true)
    (k : ∀ A' c' w', Hp b S w' (rOwn τ e A' c' (xs ++ ys) :: rest) → WL P n ops Q K os ((d, .slice A' (xs ++ ys).length c') :: l) w') :
    WL P n ops Q K (⟨some d, .call ⟨.builtin .append, #[s, x], #[t, t]⟩, ty, pos, aft, none⟩ :: os) l w := by
  have H1 := H.sel se
  have hsub : ∀ g, Rd b S rs w g → Rd b S (rOwn τ e A c xs :: rest) w g := Rd.perm se.perm
  refine WL.app (evd_blt hs).2 hx (H1.ow s0) (hy.sub hsub) hT hI (fun _ _ _ h => h) (fun g hA => H1.notRd s0 g hA) hm1 hm2 hby H1.ext.size (evd_blt hs).1 fun A' c' w' ho hg hat => k A' c' w' (H1.own hg (fun g hg' => ?_) ho)
  rcases hat with hat | hat
  · exact .inl (hat ▸ hg')
  · rw [hat] at hg'; cases hg'; exact .inr (Nat.le_refl _)
theorem Sl.flat {α : Type} {τ : Ty α} [Flat τ] {S S' : Nat → Prop} {w : World} {A : Option Addr} {c : Nat} {xs : List α} (h : Sl τ S w A c xs) (hS : xs ≠ [] → S' (adr A).block) : Sl τ S' w A c xs :=
  ⟨h.cap, h.max, h.nil, fun i x hx => by
    obtain ⟨_, cs, h2, h3⟩ := h.rows i x hx
    exact ⟨hS (fun e => by subst e; simp at hx), cs, Flat.h h2, h3⟩⟩
theorem ap {α : Type} {τ : Ty α} [Flat τ] {t e : TypeId} {bytes : Nat} {A B : Option Addr} {c c2 : Nat} {xs ys : List α} {s x : Operand} {S2 : Nat → Prop} (H : Hp b S w rs) (se : Sel rs (rOwn τ e A c xs) rest) (hs : evd n l d s = some (.slice A xs.length c)) (hx : evl l x = some (.slice B ys.length c2))
    (hy : Sl τ S2 w B c2 ys) (hT : P.underlying t = some (.slice e)) (hI : ElemInfo P e τ.k bytes)
    (hm1 : xs.length ≤ 1000000) (hm2 : ys.length ≤ 1000000) (hby : Nat.ble bytes 1000 = true)
    (k : ∀ A' c' w', Hp b S w' (rOwn τ e A' c' (xs ++ ys) :: rest) → WL P n ops Q K os ((d, .slice A' (xs ++ ys).length c') :: l) w') :
    WL P n ops Q K (⟨some d, .call ⟨.builtin .append, #[s, x], #[t, t]⟩, ty, pos, aft, none⟩ :: os) l w := by
  have H1 := H.sel se
  refine WL.app (S2 := S2) (evd_blt hs).2 hx (H1.ow s0) hy hT hI (fun _ _ _ h => Flat.h h) (fun g hA => H1.notRd s0 g hA) hm1 hm2 hby H1.ext.size (evd_blt hs).1 fun A' c' w' ho hg hat => k A' c' w' (H1.own hg (fun g hg' => ?_) ho)
  rcases hat with hat | hat
  · exact .inl (hat ▸ hg')
  · rw [hat] at hg'; cases hg'; exact .inr (Nat.le_refl _)
/-- 'append(nil, make([]T, n)...)', cut back to nothing -/
theorem apz {α : Type} (τ : Ty α) {t e ti : TypeId} {bytes m : Nat} {s x : Operand} (hs : evd n l d s = some (.slice none 0 0)) (hx : evl l x = some (.int .i64 (m : Int))) (hT : P.underlying t = some (.slice e)) (hi : P.underlying ti = some (.int .i64)) (hI : ElemInfo P e τ.k bytes) (h0 : 0 < m) (hm : m ≤ 1000000) (hby : Nat.ble bytes 1000 = true) (H : Hp b S w rs)
    (k : ∀ g c w', Hp b S w' (rOwn τ e (some ⟨g, 0, none⟩) c [] :: rs) → WL P n ops Q K os ((d, .slice (some ⟨g, 0, none⟩) m c) :: l) w') :
    WL P n ops Q K (⟨some d, .call ⟨.builtin .append, #[s, x], #[t, ti]⟩, ty, pos, aft, none⟩ :: os) l w :=
  WL.appendZeros τ (evd_blt hs).2 hx hT hi hI h0 hm hby (evd_blt hs).1 fun g c w' ex ho => k g c w' (H.new (r := rOwn τ e (some ⟨g, 0, none⟩) c []) ex (fun g' hg' => by
    have h1 := ho.blk_lt g' hg'; omega) (ho.low (Nat.zero_le _) (fun _ h => h.elim)))
/-- a field of an element of an own row is written -/
theorem se {α : Type} {τ : Ty α} {e t : TypeId} {f i c : Nat} {A : Option Addr} {xs : List α} {x x' : α} {v : Value} {ds : List Value} {p y : Operand} {q : Addr} (H : Hp b S w rs) (s : Sel rs (rOwn τ e A c xs) rest) (hp : evl l p = some (.pointer (some q))) (hy : evl l y = some v) (hq : q = (adr A).add (i * τ.k + f))
    (hx : xs[i]? = some x) (hv : v.cells = ds.toArray) (hs : Size P t ds.length)
    (hf : f + ds.length ≤ τ.k) (h1 : ds.all (fun u => u.oneCell') = true) (hR : ∀ w' cs, (∀ {β : Type} {σ : Ty β} {B : Option Addr} {d : Nat} {zs : List β}, Sl σ (Rd b S rs w) w B d zs → Sl σ (Rd b S rs w) w' B d zs) → τ.R (Rd b S rs w) w x cs → τ.R (Rd b S rs w) w' x' (overlay cs f ds))
    (kk : ∀ w', Hp b S w' (rOwn τ e A c (xs.set i x') :: rest) → WL P n ops Q K os l w') : WL P n ops Q K (⟨none, .store t p y, ty, pos, aft, none⟩ :: os) l w := by
  have H1 := H.sel s
  have hsub : ∀ g, Rd b S rs w g → Rd b S (rOwn τ e A c xs :: rest) w g := Rd.perm s.perm
  have hsub' : ∀ g, Rd b S (rOwn τ e A c xs :: rest) w g → Rd b S rs w g := Rd.perm s.perm.symm
  refine WL.storeElem (S := Rd b S (rOwn τ e A c xs :: rest) w) hp hy hq (H1.ow s0) hx hv hs hf (fun u hu => List.all_eq_true.1 h1 u hu) (fun g hA => H1.notRd s0 g hA) (fun w' cs hg hr => τ.sub hsub (hR w' cs ?_ (τ.sub hsub' hr))) fun w' ho hg hz => kk w' (H1.own hg (fun g hg' => .inl hg') ho)
  intro β σ B d zs hsl
  exact hsl.keep fun k hk hlt => hg.block k hlt fun e => H.notRd s k e.symm hk
/-- the part of an own row that is kept -/
theorem Hp.cutOwn {α : Type} {τ : Ty α} {e : TypeId} {A : Option Addr} {c hi : Nat} {xs : List α} (H : Hp b S w rs) (s : Sel rs (rOwn τ e A c xs) rest) (h : hi ≤ xs.length) : Hp b S w (rOwn τ e A c (xs.take hi) :: rest) :=
  (H.sel s).put (r' := rOwn τ e A c (xs.take hi)) ⟨rfl, rfl, rfl, Nat.le_refl _, fun _ _ _ => rfl, Nat.le_refl _⟩ (fun g hg => .inl hg) (Own.take ((H.sel s).ok (rOwn τ e A c xs) (by simp)) h)
/-- an element's cells, and what lies behind them -/
theorem Sl.row {α : Type} {τ : Ty α} {A : Option Addr} {c i : Nat} {xs : List α} {x : α} (h : Sl τ S w A c xs) (hx : xs[i]? = some x) : ∃ cs, τ.R S w x cs ∧ ∀ j u, cs[j]? = some u → w.cell? ((adr A).add (i * τ.k + j)) = some u := (h.rows i x hx).2
theorem Hp.oi {α : Type} {τ : Ty α} {e : TypeId} {A : Option Addr} {c i : Nat} {xs : List α} {x : α} (H : Hp b S w rs) (s : Sel rs (rOwn τ e A c xs) rest) (hx : xs[i]? = some x) : ∃ cs, τ.R (Rd b S rs w) w x cs ∧ ∀ j u, cs[j]? = some u → w.cell? ((adr A).add (i * τ.k + j)) = some u := by
  obtain ⟨css, hl, hR, hown⟩ := H.ow s
  obtain ⟨cs, h1, h2⟩ := hR i x hx
  have hk := css_len hl hR
  refine ⟨cs, h2, fun j u hu => ?_⟩
  rcases hown.2 with ⟨hv, hn⟩ | ⟨g, cap, cur, hv, hg, hh, hnc, hcm, hcs, ht⟩
  · have := lt_of_get hx; omega
  · injection hv with hA hn' hc
    subst hA hc
    exact hown.cells (g := g) rfl _ _ (flat_at css hk i cs h1 j u hu)
theorem Hp.is {α : Type} {τ : Ty α} {A : Option Addr} {c i : Nat} {xs : List α} {x : α} (H : Hp b S w rs) (s : Sel rs (rSl τ A c xs) rest) (hx : xs[i]? = some x) : ∃ cs, τ.R (Rd b S rs w) w x cs ∧ ∀ j u, cs[j]? = some u → w.cell? ((adr A).add (i * τ.k + j)) = some u := (H.s s).row hx
theorem list_op {α : Type} {τ : Ty α} {a : Addr} {i : Nat} {xs : List α} (h : ∃ cs, (Ty.list τ).R S w xs cs ∧ ∀ j u, cs[j]? = some u → w.cell? (a.add (i * 1 + j)) = some u) :
    ∃ B d, w.cell? (a.add (i * 1)) = some (.slice B xs.length d) ∧ Sl τ S w B d xs := by
  obtain ⟨cs, ⟨B, d, rfl, h2⟩, h3⟩ := h
  exact ⟨B, d, h3 0 _ rfl, h2⟩
theorem rowat {a : Addr} {i k : Nat} {cs : List Value} (h : ∀ j u, cs[j]? = some u → w.cell? (a.add (i * k + j)) = some u) : ∀ j u, cs[j]? = some u → w.cell? ((a.add (i * k)).add j) = some u := fun j u hu => by rw [add_of_add]; exact h j u hu
/-- a row of one element, as a block -/
theorem Own.one_bx {α : Type} {τ : Ty α} {e : TypeId} {lo g : Nat} {x : α} (h : Own τ e lo S w (some ⟨g, 0, none⟩) 1 [x]) : ∃ cs, Bx w g e cs ∧ τ.R S w x cs := by
  obtain ⟨css, hl, hR, hown⟩ := h
  obtain ⟨cs, h1, h2⟩ := hR 0 x rfl
  have h3 : css = [cs] := by
    cases css with
    | nil => simp at hl
    | cons c0 css => cases css with
      | nil => simp at h1; rw [h1]
      | cons _ _ => simp at hl
  subst h3
  have hk := τ.len h2
  rcases hown.2 with ⟨hv, _⟩ | ⟨g', cap, cur, hv, hg, hh, hnc, hcm, hcs, ht⟩
  · cases hv
  · injection hv with hA hn' hc
    injection hA with hA
    injection hA with hA
    subst hA hc
    refine ⟨cs, ?_, h2⟩
    have h4 : cur.toList = cs := by
      have h5 : cur.toList.length = τ.k := by simpa using hcs
      have h6 : cur.toList.take (1 * τ.k) = cs := by simpa using ht
      rw [List.take_of_length_le (by omega)] at h6
      exact h6
    unfold Bx
    rw [hh, ← h4]
theorem Hp.ne_blk {α β : Type} {τ : Ty α} {σ : Ty β} {e e' : TypeId} {A B : Option Addr} {c c' : Nat} {xs : List α} {ys : List β} {rest2 : List Res} (H : Hp b S w rs) (s : Sel rs (rOwn τ e A c xs) rest) (s' : Sel rest (rOwn σ e' B c' ys) rest2) {g : Nat} (hg : blk B = some g) : blk A ≠ some g :=
  fun h => (List.pairwise_cons.1 (H.sel s).dis).1 (rOwn σ e' B c' ys) (s'.perm.mem_iff.2 (by simp)) g h hg
/-- an own row that a library function wrote, cell by cell -/
theorem Hp.raw {α : Type} {τ : Ty α} {e : TypeId} {A : Option Addr} {c : Nat} {xs : List α} (H : Hp b S w rs) (s : Sel rs (rOwn τ e A c xs) rest) : ∃ us : List (Cells τ.k), Own (tRaw τ.k τ.pos) e b.heap.size No w A c us ∧ Rel τ (Rd b S rs w) w xs us := (H.ow s).raw
theorem Hp.back {α β : Type} {τ : Ty α} {e : TypeId} {A A' : Option Addr} {c c' lo : Nat} {xs ys : List α} {vs : List (Cells τ.k)} {w' : World} {S' : Nat → Prop} (H : Hp b S w rs) (s : Sel rs (rOwn τ e A c xs) rest) (hO : Own (tRaw τ.k τ.pos) e lo S' w' A' c' vs) (hr : Rel τ (Rd b S rs w) w ys vs) (hg : Grw w w' (blk A)) (hA : ∀ g, blk A' = some g → blk A = some g ∨ w.heap.size ≤ g) : Hp b S w' (rOwn τ e A' c' ys :: rest) := by
  have hsub : ∀ g, Rd b S rs w g → Rd b S (rOwn τ e A c xs :: rest) w g := Rd.perm s.perm
  exact (H.sel s).own hg hA (hO.ofRaw ((hr.sub hsub).grown hg (fun g hA => (H.sel s).notRd s0 g hA)))
theorem WH.tk {rk : List Res} {fuel : Nat} {listed : Array Bool} (i : Nat) {op : Op} {d : Nat} {v : Value} (hi : ops[i]? = some ⟨some d, op, ty, pos, aft, none⟩) (hs : Region.noSelect ops = true) (hf : Region.free .any ops listed i = true)
    (hr : (Region.ready .any ops listed).contains i = true) (he : ∀ w', Hp b S w' rk → Ev P n l w' op v) (hd : Nat.blt d n.size = true) (hw : Hp b S w rk) (k : WH P n ops K (fun w' => Hp b S w' rk) fuel (listed.setIfInBounds i true) ((d, v) :: l) w) :
    WH P n ops K (fun w' => Hp b S w' rk) (fuel + 1) listed l w := fun a ha =>
  wpAnyH_take hi hs hf hr (fun _ _ _ h => h) (.inl ⟨wanted_none a, fun w' hw' => he w' hw' _ a w' rfl ha (Ext.refl w')⟩) hw (k _ (ha.put hd v))
theorem WH.tkg {rk : List Res} {fuel : Nat} {listed : Array Bool} (i : Nat) {op : Op} {d j : Nat} {want : Bool} {v : Value} (hi : ops[i]? = some ⟨some d, op, ty, pos, aft, some (j, want)⟩) (hg : guardOf ops l j = some (.bool want)) (hs : Region.noSelect ops = true) (hf : Region.free .any ops listed i = true)
    (hr : (Region.ready .any ops listed).contains i = true) (he : ∀ w', Hp b S w' rk → Ev P n l w' op v) (hd : Nat.blt d n.size = true) (hw : Hp b S w rk) (k : WH P n ops K (fun w' => Hp b S w' rk) fuel (listed.setIfInBounds i true) ((d, v) :: l) w) :
    WH P n ops K (fun w' => Hp b S w' rk) (fuel + 1) listed l w := fun a ha =>
  wpAnyH_take hi hs hf hr (fun _ _ _ h => h) (.inl ⟨wanted_some hg a ha, fun w' hw' => he w' hw' _ a w' rfl ha (Ext.refl w')⟩) hw (k _ (ha.put hd v))
end
end Go.Proofs.YtjcklpooaaaglaaGreat
set_option linter.all false
namespace Go.Proofs.YtjcklpooaaaglaaGreat
open Go.RowKit

/-! ### regions that draw: blocks of operations that only read -/
def WI (P : Program) (n : Cx) (ops : Array Oper) (Q : Exit → Act → World → Prop) (fuel : Nat) (listed : Array Bool) (l : List (Nat × Value)) (w : World) : Prop :=
  ∀ a, Has n l a → wpAnyIn n.fence 0 P .any ops Q fuel listed a w
def blockOk (ops : Array Oper) (ids : List Nat) (rest : Nat) (full : Array Bool) : Nat → Array Bool → Bool
  | 0, listed => listed == full && rest == 0
  | f + 1, listed => if listed == full then f + 1 == rest else !(Region.ready .any ops listed).isEmpty && (Region.ready .any ops listed).all fun i => ids.contains i && blockOk ops ids rest full f (listed.setIfInBounds i true)
/-- the operation yields v and leaves S as it is -/
def Qi (P : Program) (n : Cx) (ops : Array Oper) (S : World → Prop) (l : List (Nat × Value)) (o : Oper) (v : Value) : Prop := ∀ a w, Has n l a → S w →
  (Region.wanted o (yielded ops a.tmps) = true ∧ ((execOp a.eval o).run P w = .ok (.value v) w ∨ ∃ f args, (execOp a.eval o).run P w = .ok (.enter f args) w ∧ Rets P f args w fun u w' => u = v ∧ S w')) ∨ (Region.wanted o (yielded ops a.tmps) = false ∧ v = undef)
/-- the operations on which one waits -/
def waitsOn (o : Oper) (A : List (Nat × Nat × Value)) : List (Nat × Value) := (A.filter fun q => o.after.toList.any fun e => Region.binds .any e && e.on == q.1).map (·.2)
def nodupB : List Nat → Bool
  | [] => true
  | x :: xs => !xs.contains x && nodupB xs
theorem nodupB_iff : ∀ {A : List (Nat × Nat × Value)}, nodupB (A.map (·.2.1)) = true → A.Pairwise fun p q => p.2.1 ≠ q.2.1
  | [], _ => List.Pairwise.nil
  | p :: A, h => by
    simp only [List.map_cons, nodupB, Bool.and_eq_true, Bool.not_eq_true'] at h
    refine List.pairwise_cons.2 ⟨fun q hq e => ?_, nodupB_iff h.2⟩
    have : (A.map (·.2.1)).contains p.2.1 = true := by
      rw [List.contains_iff_mem]; exact List.mem_map.2 ⟨q, hq, e.symm⟩
    rw [this] at h; cases h.1
structure Quiet1 (P : Program) (n : Cx) (ops : Array Oper) (S : World → Prop) (l : List (Nat × Value)) (A : List (Nat × Nat × Value)) (p : Nat × Nat × Value) : Prop where
  ex : ∃ o, ops[p.1]? = some o ∧ o.dst = some p.2.1 ∧ Nat.blt p.2.1 n.size = true ∧ look l p.2.1 = none ∧ Qi P n ops S (waitsOn o A ++ l) o p.2.2
section
variable {P : Program} {n : Cx} {l l' : List (Nat × Value)} {w : World} {Q : Exit → Act → World → Prop} {ops : Array Oper} {fuel : Nat} {listed : Array Bool}
theorem WP.dr {ol : List Oper} {id : Nat} {y : Code} (hm : P.follows .mixedOrders = true) (h : WI P n ol.toArray (Exit.then (cwp P n y Q) Q) ol.length (List.replicate ol.length false).toArray l w.drew) : WP P n (.seq (.region id ol.toArray true) y) l w Q := fun a ha => by
  exact wpIn_seq (wpIn_region_any (Q := Exit.then (cwp P n y Q) Q) hm (by have := h a ha; simpa using this))
theorem WI.one (i : Nat) {o : Oper} (hr : Region.ready .any ops listed = [i]) (hi : ops[i]? = some o) (h : WL P n ops Q (fun a w => wpAnyIn n.fence 0 P .any ops Q fuel (listed.setIfInBounds i true) a w) [o] l w) (hp : n.plain = false := by rfl) : WI P n ops Q (fuel + 1) listed l w := by
  intro a ha
  refine ⟨fun h0 => (by rw [hr] at h0; cases h0), fun j hj => ?_⟩
  rw [hr] at hj
  obtain rfl := List.mem_singleton.1 hj
  have h1 := h a ha
  unfold wpK at h1
  unfold wpOpIn
  rw [hi]
  show (if Region.wanted o (yielded ops a.tmps) then _ else _)
  split
  · rename_i hw
    rw [if_pos hw] at h1
    unfold opw at h1
    rw [hp] at h1
    exact h1
  · rename_i hw
    rw [if_neg hw] at h1
    exact ⟨fun _ _ => trivial, h1⟩
theorem WI.nx (k : WI P n ops Q fuel listed l w) : WL P n ops Q (fun a w => wpAnyIn n.fence 0 P .any ops Q fuel listed a w) [] l w := fun a ha => k a ha
theorem WI.dn {y : Code} (hr : Region.ready .any ops listed = []) (h : WP P n y l w Q) : WI P n ops (Exit.then (cwp P n y Q) Q) fuel listed l w := fun a ha => by
  cases fuel with
  | zero => exact ⟨hr, h a ha⟩
  | succ f => exact ⟨fun _ => h a ha, by rw [hr]; simp⟩
theorem WI.dne (hr : Region.ready .any ops listed = []) (h : Pst n Q .normal l w) : WI P n ops Q fuel listed l w := fun a ha => by
  cases fuel with
  | zero => exact ⟨hr, h a ha⟩
  | succ f => exact ⟨fun _ => h a ha, by rw [hr]; simp⟩
theorem WI.re {t : Nat} {u v : Value} (hl : look l t = some u) (e : u = v) (k : WI P n ops Q fuel listed ((t, v) :: l) w) : WI P n ops Q fuel listed l w := fun a ha => k a (ha.set hl e)
theorem Has.more {a : Act} (h : Has n l a) : ∀ {B : List (Nat × Value)}, (∀ q ∈ B, a.tmps.getD q.1 undef = q.2) → Has n (B ++ l) a
  | [], _ => h
  | q :: B, hB => by
    have h1 := Has.more h (B := B) fun q hq => hB q (by simp [hq])
    refine ⟨h.defers, h.size, fun i v hv => ?_⟩
    simp only [List.cons_append, look] at hv
    cases hb : Nat.beq q.1 i with
    | true => simp [hb] at hv; subst hv; rw [← Nat.eq_of_beq_eq_true hb]; exact hB q (by simp)
    | false => simp [hb] at hv; exact h1.get i v hv
theorem pairwise_ne {A : List (Nat × Nat × Value)} (hd : A.Pairwise fun p q => p.2.1 ≠ q.2.1) {p q : Nat × Nat × Value} (hp : p ∈ A) (hq : q ∈ A) (hne : p ≠ q) : p.2.1 ≠ q.2.1 := by
  induction A with
  | nil => simp at hp
  | cons x A ih =>
    have h := List.pairwise_cons.1 hd
    rcases List.mem_cons.1 hp with hp' | hp' <;> rcases List.mem_cons.1 hq with hq' | hq'
    · exact absurd (hp'.trans hq'.symm) hne
    · rw [hp']; exact h.1 q hq'
    · rw [hq']; exact fun e => h.1 p hp' e.symm
    · exact ih h.2 hp' hq'
theorem put_other {a : Act} {d k : Nat} {v : Value} (h : k ≠ d) : (a.put (some d) v).tmps.getD k undef = a.tmps.getD k undef := by
  simp [Act.put, Array.getD_eq_getD_getElem?, Array.getElem?_setIfInBounds_ne (Ne.symm h)]
theorem WI.block {S : World → Prop} (A : List (Nat × Nat × Value)) (rest : Nat) (full : Array Bool) (hok : blockOk ops (A.map (·.1)) rest full fuel listed = true) (hd : nodupB (A.map (·.2.1)) = true) (hfull : A.all (fun p => full.getD p.1 false) = true) (hl0 : A.all (fun p => !listed.getD p.1 false) = true)
    (hq : ∀ p ∈ A, Quiet1 P n ops S l A p) (hS : S w) (k : ∀ w', S w' → WI P n ops Q rest full (A.map (·.2) ++ l) w') (hp : n.plain = false := by rfl) : WI P n ops Q fuel listed l w := by
  have key : ∀ (fuel : Nat) (listed : Array Bool) (a : Act) (w : World), blockOk ops (A.map (·.1)) rest full fuel listed = true → Has n l a → (∀ p ∈ A, listed.getD p.1 false = true → a.tmps.getD p.2.1 undef = p.2.2) → S w → wpAnyIn n.fence 0 P .any ops Q fuel listed a w := by
    intro fuel
    induction fuel with
    | zero =>
      intro listed a w hb ha hv hS
      simp only [blockOk, Bool.and_eq_true, beq_iff_eq] at hb
      obtain ⟨rfl, rfl⟩ := hb
      refine k w hS a (ha.more fun q hq => ?_)
      obtain ⟨p, hpA, rfl⟩ := List.mem_map.1 hq
      exact hv p hpA (List.all_eq_true.1 hfull p hpA)
    | succ f ih =>
      intro listed a w hb ha hv hS
      unfold blockOk at hb
      split at hb
      · rename_i he
        have he' : listed = full := eq_of_beq he
        have hr' : f + 1 = rest := eq_of_beq hb
        subst he' hr'
        refine k w hS a (ha.more fun q hq => ?_)
        obtain ⟨p, hpA, rfl⟩ := List.mem_map.1 hq
        exact hv p hpA (List.all_eq_true.1 hfull p hpA)
      · simp only [Bool.and_eq_true, Bool.not_eq_true', List.isEmpty_eq_false_iff, List.all_eq_true] at hb
        refine ⟨fun h0 => absurd h0 hb.1, fun i hi => ?_⟩
        have h1 := hb.2 i hi
        have hmem : i ∈ A.map (·.1) := by simpa using h1.1
        obtain ⟨p, hpA, rfl⟩ := List.mem_map.1 hmem
        obtain ⟨o, ho, hdst, hblt, hnone, hqi⟩ := (hq p hpA).ex
        obtain ⟨hun, o', ho', hall⟩ := mem_ready.1 hi
        rw [ho] at ho'
        obtain rfl := Option.some.inj ho'
        have hfr : Has n (waitsOn o A ++ l) a := ha.more fun q hq => by
          obtain ⟨p', hp', rfl⟩ := List.mem_map.1 hq
          obtain ⟨h2, h3⟩ := List.mem_filter.1 hp'
          obtain ⟨e, he, h4⟩ := List.any_eq_true.1 h3
          simp only [Bool.and_eq_true, beq_iff_eq] at h4
          exact hv p' h2 (by rw [← h4.2]; exact hall e (by simpa using he) h4.1)
        have next : ∀ w', S w' → wpAnyIn n.fence 0 P .any ops Q f (listed.setIfInBounds p.1 true) (a.put (some p.2.1) p.2.2) w' := by
          intro w' hS'
          refine ih _ _ _ h1.2 ?_ (fun q hqA hlq => ?_) hS'
          · have h5 := ha.put hblt p.2.2
            refine ⟨h5.defers, h5.size, fun j u hu => h5.get j u ?_⟩
            unfold look
            cases hb' : Nat.beq p.2.1 j with
            | true => rw [← Nat.eq_of_beq_eq_true hb', hnone] at hu; cases hu
            | false => simpa [hb'] using hu
          · by_cases hd' : q.2.1 = p.2.1
            · have : q = p := by
                by_cases e : q = p
                · exact e
                · exact absurd hd' (pairwise_ne (nodupB_iff hd) hqA hpA e)
              subst this
              exact (ha.put hblt _).get _ _ (by simp [look])
            · rw [put_other hd']
              refine hv q hqA ?_
              by_cases e : p.1 = q.1
              · exfalso
                obtain ⟨o2, ho2, hdst2, _⟩ := (hq q hqA).ex
                rw [← e, ho] at ho2
                obtain rfl := Option.some.inj ho2
                rw [hdst] at hdst2
                exact hd' (Option.some.inj hdst2).symm
              · rw [← hlq]; simp only [Array.getD_eq_getD_getElem?, Array.getElem?_setIfInBounds_ne e]
        unfold wpOpIn
        rw [ho]
        rcases hqi a w hfr hS with ⟨hw, hrun⟩ | ⟨hw, hv'⟩
        · show (if Region.wanted o (yielded ops a.tmps) then _ else _)
          rw [if_pos hw]
          have hopw : ∀ K, opw P n o a w K Q → o.wpIn n.fence 0 P a w K Q := by intro K h; unfold opw at h; rw [hp] at h; exact h
          rcases hrun with hrun | ⟨g, args, hrun, hret⟩
          · exact hopw _ (opw_value hrun (by rw [hdst]; exact next w hS))
          · refine hopw _ (opw_enter hrun (Calls.mono hret ?_))
            rintro e w' ⟨v, rfl, rfl, hS'⟩
            exact ⟨_, rfl, by rw [hdst]; exact next w' hS'⟩
        · show (if Region.wanted o (yielded ops a.tmps) then _ else _)
          rw [if_neg (by rw [hw]; decide)]
          exact ⟨fun _ _ => trivial, by rw [hdst, ← hv']; exact next w hS⟩
  intro a ha
  exact key fuel listed a w hok ha (fun p hpA hl => by have := List.all_eq_true.1 hl0 p hpA; rw [hl] at this; cases this) hS
end

/-! ### objects of the heap that are no cells -/
def rObj (g : Nat) (o : Obj) : Res where
  W := fun b => b = g
  ok := fun _ w => w.heap[g]? = some o
  sub := fun _ h => h
  keep := fun {_ w _} hm h => (hm g (.inl rfl) (Array.getElem?_eq_some_iff.1 h).1).trans h
section
variable {P : Program} {b w : World} {S : Nat → Prop} {rs rest F G : List Res}
theorem Hp.obj {g : Nat} {o : Obj} (H : Hp b S w rs) (s : Sel rs (rObj g o) rest) : w.heap[g]? = some o := H.ok (rObj g o) (s.perm.mem_iff.2 (by simp))
theorem Hp.newObj (H : Hp b S w rs) (o : Obj) : Hp b S (w.alloc o) (rObj w.heap.size o :: rs) :=
  H.new (r := rObj w.heap.size o) (Ext.alloc w o) (fun g hg => by rw [show g = w.heap.size from hg]; simp) (World.alloc_heap_new w o)
theorem Hp.putObj {g : Nat} {o : Obj} (H : Hp b S w rs) (s : Sel rs (rObj g o) rest) (o' : Obj) : Hp b S (w.putObj g o') (rObj g o' :: rest) :=
  (H.sel s).put (r' := rObj g o') ⟨rfl, rfl, rfl, by simp, fun k hk hn => World.putObj_heap_other hn, Nat.le_refl _⟩ (fun g hg => .inl hg) (World.putObj_heap_same (Array.getElem?_eq_some_iff.1 (H.obj s)).1)
theorem Hp.comm (H : Hp b S w (F ++ G)) : Hp b S w (G ++ F) := H.perm List.perm_append_comm
end

/-! ### a loop over a function -/
/-- what a function that is ranged over does: it hands on ys, one behind the other, until it is told to stop; G0: what of the memory it looks at -/
def Iter (P : Program) (f : FuncId) (caps : List Value) {α : Type} (enc : α → List Value) (ys : List α) (b : World) (S : Nat → Prop) (G0 : List Res) : Prop :=
  ∀ (lr : Nat) (Jf Jx : List α → List Res → Prop) (w : World) (F0 : List Res), Hp b S w (F0 ++ G0) → Jf [] F0 →
    (∀ pre x W F G, Jf pre F → pre ++ [x] <+: ys → Hp b S W (F ++ G) → YieldAt Fence.wide 0 P lr (enc x).toArray W fun e W' =>
      (e = .returned (.bool true) ∧ ∃ F', Jf (pre ++ [x]) F' ∧ Hp b S W' (F' ++ G)) ∨ (e = .returned (.bool false) ∧ ∃ F', Jx (pre ++ [x]) F' ∧ Hp b S W' (F' ++ G))) →
    CallsIn Fence.wide 0 P f (#[.func (.yield lr) #[] #[]] ++ caps.toArray) w fun e w' => (∃ v, e = .returned v) ∧ ((∃ F', Jf ys F' ∧ Hp b S w' F') ∨ (∃ pre F', Jx pre F' ∧ Hp b S w' F'))

/-- an activation of a round -/
abbrev Cx.rnd (k lr : Nat) : Cx := ⟨k, some lr, [], false⟩
abbrev Cx.marked (k D : Nat) : Cx := ⟨k, none, [D], false⟩
def RPost {α : Type} (b : World) (S : Nat → Prop) (G : List Res) (Jf : List α → List Res → Prop) (Jx : Code → List α → List Res → Prop) (pre : List α) : Exit → Act → World → Prop
  | .normal, _, w => ∃ F, Jf pre F ∧ Hp b S w (F ++ G)
  | .ret, _, w => ∃ F, Jx .ret pre F ∧ Hp b S w (F ++ G)
  | .exit id, _, w => ∃ F, Jx (.exit id) pre F ∧ Hp b S w (F ++ G)
  | .goto t, _, w => ∃ F, Jx (.goto t) pre F ∧ Hp b S w (F ++ G)
  | _, _, _ => False
def APost {α : Type} (n : Cx) (b : World) (S : Nat → Prop) (G : List Res) (Mid : List α → α → List (Nat × Value) → List Res → Prop) (pre : List α) (x : α) : Exit → Act → World → Prop
  | .normal, a, w => ∃ l1 F1, Has n l1 a ∧ Mid pre x l1 F1 ∧ Hp b S w (F1 ++ G)
  | _, _, _ => False
theorem getD_foldl_zip : ∀ (ps : List Nat) (vs : List Value) (t : Array Value) (l : List (Nat × Value)) (k : Nat), ps.length = vs.length → (∀ p ∈ ps, p < k) → t.size = k → (∀ i v, look l i = some v → t.getD i undef = v) →
    ((ps.zip vs).foldl (fun t (p, v) => t.setIfInBounds p v) t).size = k ∧ ∀ i v, look ((ps.zip vs).reverse ++ l) i = some v → ((ps.zip vs).foldl (fun t (p, v) => t.setIfInBounds p v) t).getD i undef = v
  | [], vs, t, l, k, _, _, hs, hl => by
    simp only [List.zip_nil_left, List.foldl_nil, List.reverse_nil, List.nil_append]
    exact ⟨hs, hl⟩
  | p :: ps, [], t, l, k, h, _, _, _ => by simp at h
  | p :: ps, v :: vs, t, l, k, h, hp, hs, hl => by
    have hpk := hp p (by simp)
    simp only [List.zip_cons_cons, List.foldl_cons, List.reverse_cons, List.append_assoc, List.singleton_append]
    refine getD_foldl_zip ps vs _ ((p, v) :: l) k (by simpa using h) (fun q hq => hp q (by simp [hq])) (by simp [hs]) (fun i u hu => ?_)
    unfold look at hu
    cases hb : Nat.beq p i with
    | true =>
      have := Nat.eq_of_beq_eq_true hb
      subst this
      simp [hb] at hu
      subst hu
      simp [Array.getD_eq_getD_getElem?, hs, hpk]
    | false =>
      simp [hb] at hu
      have := hl i u hu
      simpa [Array.getD_eq_getD_getElem?, Array.getElem?_setIfInBounds_ne (Nat.ne_of_beq_eq_false hb)] using this
section
variable {P : Program} {k : Nat} {l : List (Nat × Value)} {b w : World} {S : Nat → Prop} {Q : Exit → Act → World → Prop}
theorem WP.range {α : Type} {g : Operand} {ps : List Nat} {assign body : Code} {f : FuncId} {caps : List Value} {enc : α → List Value} {ys : List α} {F0 G0 : List Res} (hg : evl l g = some (.func (.func f) #[] caps.toArray)) (hcal : Callable P f)
    (hit : Iter P f caps enc ys b S G0) (H : Hp b S w (F0 ++ G0)) (hps : ∀ x, (enc x).length = ps.length) (hpk : ps.all (fun p => Nat.blt p k) = true)
    (Jf : List α → List Res → Prop) (Jx : Code → List α → List Res → Prop) (Mid : List α → α → List (Nat × Value) → List Res → Prop) (h0 : Jf [] F0)
    (hassign : ∀ lr pre x F G W, Jf pre F → pre ++ [x] <+: ys → Hp b S W (F ++ G) → WP P (.rnd k lr) assign ((ps.zip (enc x)).reverse ++ l) W (APost (.rnd k lr) b S G Mid pre x))
    (hbody : ∀ lr pre x l1 F1 G W, Mid pre x l1 F1 → pre ++ [x] <+: ys → Hp b S W (F1 ++ G) → WP P (.rnd k lr) body l1 W (RPost b S G Jf Jx (pre ++ [x])))
    (hdone : ∀ D F w', Jf ys F → Hp b S w' (rObj D (.deferred (some [])) :: F) → Pst (.marked k D) Q .normal l w')
    (hstop : ∀ D c pre F w', Jx c pre F → Hp b S w' (rObj D (.deferred (some [])) :: F) → WP P (.marked k D) c l w' Q) :
    WP P (.bare k) (.rangeFunc g ps.toArray assign body) l w Q := by
  intro a ha
  have hgv := ha.eval hg
  refine wpIn_rangeFunc fun fn hfn => ?_
  obtain ⟨rec, hrec⟩ : ∃ rec : LoopState → Option Code → Loop, rec = fun st pe => { state := st, pending := pe, fn, tmps := a.tmps, params := ps.toArray, assign, body, defers := w.heap.size } := ⟨_, rfl⟩
  have H1 := H.newObj (.deferred (some []))
  have H2 := H1.newObj (.loop (rec .ready none))
  obtain ⟨W1, hW1⟩ : ∃ W1, (w.alloc (.deferred (some []))).alloc (.loop (rec .ready none)) = W1 := ⟨_, rfl⟩
  have hsz : (w.alloc (.deferred (some []))).heap.size = w.heap.size + 1 := by simp
  rw [hW1, hsz] at H2
  obtain ⟨D, hD⟩ : ∃ D, w.heap.size = D := ⟨_, rfl⟩
  obtain ⟨lr, hlr⟩ : ∃ lr, w.heap.size + 1 = lr := ⟨_, rfl⟩
  rw [hlr, hD] at H2
  refine ⟨lr, [{ target := .collected D, args := #[] }], W1, { target := .fn (.func f) caps.toArray, args := #[.func (.yield lr) #[] #[]] }, W1, f, #[.func (.yield lr) #[] #[]] ++ caps.toArray, W1, ?_, ?_, fun _ _ => trivial, ?_, (fun h => by cases h), ?_⟩
  · rw [← hW1, hrec, ← hD, ← hlr]; exact run_enterLoop_outer _ _ _ _ _
  · simp only [resolve, hgv]
    simp [go_sem]
  · simp only [invoke]
    exact hcal _ _
  · have Hn : Hp b S W1 ((rObj lr (.loop (rec .ready none)) :: rObj D (.deferred (some [])) :: F0) ++ G0) := H2
    refine (hit lr (fun pre F' => ∃ F, F' = rObj lr (.loop (rec .ready none)) :: rObj D (.deferred (some [])) :: F ∧ Jf pre F)
      (fun pre F' => ∃ c F, F' = rObj lr (.loop (rec .done (some c))) :: rObj D (.deferred (some [])) :: F ∧ Jx c pre F) W1 _ Hn ⟨F0, rfl, h0⟩ ?_).mono ?_
    · rintro pre x W F' G ⟨F, rfl, hJ⟩ hpre Hw
      have hobj : W.heap[lr]? = some (.loop (rec .ready none)) := Hw.obj s0
      have hy := run_yield (P := P) (args := (enc x).toArray) hobj (by rw [hrec]; simp [hps])
      rw [hrec] at hy
      refine ⟨fn, _, assign, body, hy, roundIn_of_wpIn trivial ?_⟩
      have Hw2 : Hp b S W (F ++ (rObj lr (.loop (rec .ready none)) :: rObj D (.deferred (some [])) :: G)) :=
        Hw.perm (by
          have : (rObj lr (.loop (rec .ready none)) :: rObj D (.deferred (some [])) :: F) ++ G = [rObj lr (.loop (rec .ready none)), rObj D (.deferred (some []))] ++ F ++ G := by simp
          rw [this]
          refine (List.perm_append_comm.append_right G).trans ?_
          rw [List.append_assoc]
          exact List.Perm.refl _)
      have hfr := getD_foldl_zip ps (enc x) a.tmps l k (hps x).symm (fun p hp => by have := List.all_eq_true.1 hpk p hp; simpa [Nat.blt_eq] using this) ha.size ha.get
      have hHas : Has (.rnd k lr) ((ps.zip (enc x)).reverse ++ l) { tmps := (ps.toArray.zip (enc x).toArray).foldl (fun t (p, v) => t.setIfInBounds p v) a.tmps, defers := [] } := by
        have he : (ps.toArray.zip (enc x).toArray).foldl (fun t (p, v) => t.setIfInBounds p v) a.tmps = (ps.zip (enc x)).foldl (fun t (p, v) => t.setIfInBounds p v) a.tmps := by
          rw [List.zip_toArray, List.foldl_toArray]
        rw [he]
        exact ⟨rfl, hfr.1, hfr.2⟩
      have has := hassign lr pre x F _ W hJ hpre Hw2 _ hHas
      refine wpIn_mono has ?_
      rintro e a1 w1 hq
      cases e with
      | normal =>
        obtain ⟨l1, F1, hh1, hmid, Hm⟩ := hq
        have hcm : ∀ {W' : World} {FF GG : List Res} {o1 o2 : Obj}, Hp b S W' (FF ++ (rObj lr o1 :: rObj D o2 :: GG)) → Hp b S W' (rObj lr o1 :: rObj D o2 :: (FF ++ GG)) := fun h => h.perm (by
          refine (List.perm_append_comm).trans ?_
          exact ((List.perm_append_comm).cons _).cons _)
        have Hm1 := hcm Hm
        refine ⟨_, run_beginRound (Hm1.obj s0) (by rw [hrec]), ?_⟩
        have Hm2 := Hm1.putObj s0 (.loop { rec .ready none with state := .busy })
        have Hm3 : Hp b S (w1.putObj lr (.loop { rec .ready none with state := .busy })) (F1 ++ (rObj lr (.loop { rec .ready none with state := .busy }) :: rObj D (.deferred (some [])) :: G)) := Hm2.perm (by
          refine List.Perm.trans ?_ (List.perm_append_comm)
          exact ((List.perm_append_comm).cons _).cons _)
        refine wpIn_mono (hbody lr pre x l1 F1 _ _ hmid hpre Hm3 a1 hh1) ?_
        have fin : ∀ (jump : Option Code) (W3 : World) (F3 : List Res), Hp b S W3 (F3 ++ (rObj lr (.loop { rec .ready none with state := .busy }) :: rObj D (.deferred (some [])) :: G)) →
            ∃ W4, (Instr.endRound lr jump).run P W3 = .ok (.bool jump.isNone) W4 ∧ Hp b S W4 ((rObj lr (.loop (rec (if jump.isNone then .ready else .done) jump)) :: rObj D (.deferred (some [])) :: F3) ++ G) := fun jump W3 F3 h3 => by
          have h4 := hcm h3
          have h5 := run_endRound (P := P) jump (h4.obj s0)
          have h6 := h4.putObj s0 (.loop (rec (if jump.isNone then .ready else .done) jump))
          rw [hrec] at h5 h6 ⊢
          exact ⟨_, h5, h6⟩
        rintro e a3 W3 hp3
        cases e with
        | normal =>
          obtain ⟨F3, hJ3, h3⟩ := hp3
          obtain ⟨W4, hr4, h4⟩ := fin none W3 F3 h3
          exact ⟨_, _, hr4, .inl ⟨rfl, _, ⟨F3, rfl, hJ3⟩, h4⟩⟩
        | ret =>
          obtain ⟨F3, hJ3, h3⟩ := hp3
          obtain ⟨W4, hr4, h4⟩ := fin (some .ret) W3 F3 h3
          exact ⟨_, _, hr4, .inr ⟨rfl, _, ⟨.ret, F3, rfl, hJ3⟩, h4⟩⟩
        | exit id =>
          obtain ⟨F3, hJ3, h3⟩ := hp3
          obtain ⟨W4, hr4, h4⟩ := fin (some (.exit id)) W3 F3 h3
          exact ⟨_, _, hr4, .inr ⟨rfl, _, ⟨.exit id, F3, rfl, hJ3⟩, h4⟩⟩
        | goto t =>
          obtain ⟨F3, hJ3, h3⟩ := hp3
          obtain ⟨W4, hr4, h4⟩ := fin (some (.goto t)) W3 F3 h3
          exact ⟨_, _, hr4, .inr ⟨rfl, _, ⟨.goto t, F3, rfl, hJ3⟩, h4⟩⟩
        | panic ch => exact hp3.elim
        | outgrown => exact hp3.elim
      | ret => exact hq.elim
      | exit id => exact hq.elim
      | goto t => exact hq.elim
      | panic ch => exact hq.elim
      | outgrown => exact hq.elim
    · have hdf : ({ a with defers := [{ target := .collected D, args := #[] }] ++ a.defers } : Act).defers = (Cx.marked k D).defers := by
        rw [ha.defers]; rfl
      rintro e W2 ⟨⟨v, rfl⟩, (⟨F', ⟨F, rfl, hJ⟩, h2⟩ | ⟨pre, F', ⟨c, F, rfl, hJ⟩, h2⟩)⟩
      · have h3 := run_endLoop (P := P) (h2.obj s0) (by rw [hrec]; simp)
        have h4 := (h2.putObj s0 (.loop { rec .ready none with state := .exhausted })).tail
        refine ⟨none, _, h3.trans (congrArg (fun p => Result.ok p _) (show (rec .ready none).pending = none by rw [hrec])), ?_⟩
        exact hdone D F _ hJ h4 _ ⟨hdf, ha.size, ha.get⟩
      · have h3 := run_endLoop (P := P) (h2.obj s0) (by rw [hrec]; simp)
        have h4 := (h2.putObj s0 (.loop { rec .done (some c) with state := .exhausted })).tail
        refine ⟨some c, _, h3.trans (congrArg (fun p => Result.ok p _) (show (rec .done (some c)).pending = some c by rw [hrec])), ?_⟩
        exact hstop D c pre F _ hJ h4 _ ⟨hdf, ha.size, ha.get⟩
end

/-! ### a function that holds a loop over a function: its beginning, its end -/
/-- what the result variables hold -/
def Resv (P : Program) (l : List (Nat × Value)) (w : World) : List ResultVar → List Value → Prop
  | [], vs => vs = []
  | .tmp t :: rs, vs => ∃ v us, vs = v :: us ∧ look l t = some v ∧ Resv P l w rs us
  | .cell a t :: rs, vs => ∃ v us, vs = v :: us ∧ (∃ p, look l a = some (.pointer (some p)) ∧ (loadVar t p).run P w = .ok v w) ∧ Resv P l w rs us
section
variable {P : Program} {n : Cx} {l : List (Nat × Value)} {b w : World} {S : Nat → Prop}
theorem run_resv (f : ResultVar → Sem Value) (a : Act) (hf : ∀ t, f (.tmp t) = pure (a.tmps.getD t undef)) (hc : ∀ c t, f (.cell c t) = (do loadVar t (← asAddr (a.tmps.getD c undef)))) (ha : Has n l a) : ∀ (rs : List ResultVar) (vs : List Value), Resv P l w rs vs → (rs.mapM f).run P w = .ok vs w
  | [], vs, h => by simp [Resv] at h; subst h; rfl
  | .tmp t :: rs, vs, h => by
    obtain ⟨v, us, rfl, h1, h2⟩ := h
    have h3 := run_resv f a hf hc ha rs us h2
    have hg := ha.get t v h1
    simp only [List.mapM_cons, Sem.run_bind, Sem.run_pure, Result.andThen_ok, hf, hg, h3]
  | .cell c t :: rs, vs, h => by
    obtain ⟨v, us, rfl, ⟨p, h1, hp⟩, h2⟩ := h
    have h3 := run_resv f a hf hc ha rs us h2
    have hg := ha.get c _ h1
    have h4 : (do loadVar t (← asAddr (a.tmps.getD c undef)) : Sem Value).run P w = .ok v w := by
      simp [hg, asAddr, hp]
    simp only [List.mapM_cons, Sem.run_bind, Sem.run_pure, Result.andThen_ok, hc, h3]
    rw [← Sem.run_bind, h4]
    simp only [Result.andThen_ok, h3, Sem.run_bind, Sem.run_pure]
theorem loads_box {t t' : TypeId} {k g : Nat} {cs : List Value} (hn : Agg P t k) (hk : cs.length = k) (hb : Bx w g t' cs) : (loadVar t ⟨g, 0, none⟩).run P w = .ok (.agg cs.toArray) w := by
  have h1 := run_loadCells_list (P := P) w ⟨g, 0, none⟩ cs (fun j u hu => by rw [Addr.add_lit, hb.cell]; simpa using hu)
  rw [hk] at h1
  simp [loadVar, hn.1 w, hn.2 w, h1]
theorem run_results {fn : Func} {a : Act} {rs : List ResultVar} {vs : List Value} (ha : Has n l a) (hr : fn.results = rs.toArray) (h : Resv P l w rs vs) : (results fn a.tmps).run P w = .ok (wrapRes vs) w := by
  unfold results
  rw [hr, Sem.run_bind, List.mapM_toArray, Sem.run_map, run_resv (P := P) (w := w) _ a (fun _ => rfl) (fun _ _ => rfl) ha rs vs h]
  simp only [Result.andThen_ok, Sem.run_pure]
  match vs with
  | [] => simp [wrapRes]
  | [v] => simp [wrapRes]
  | u :: v :: vs => simp [wrapRes]
theorem WP.enterM {k : Nat} {f : FuncId} {fn : Func} {c : Code} {vs : List Value} {R : Value → World → Prop} (hf : P.funcs[f]? = some fn) (hb : fn.body = some c) (hn : fn.ntmps = k) (hle : Nat.ble vs.length k = true)
    (h : WP P (.bare k) c (enum 0 vs) w (bodyPostM Fence.wide 0 P fn (RR R))) : Rets P f vs.toArray w R := by
  refine (callsIn_wide (n := 0)).1 (callsIn_of_wp_marks hf hb trivial (h _ ⟨rfl, ?_, fun i v hv => ?_⟩))
  · have := Nat.le_of_ble_eq_true hle
    simp [hn]; omega
  · obtain ⟨_, h2⟩ := look_enum vs 0 i v hv
    have hi : i < vs.length := (List.getElem?_eq_some_iff.1 h2).1
    simp only [Nat.sub_zero] at h2
    have h3 := (List.getElem?_eq_some_iff.1 h2).2
    simp [Array.getElem?_append, hi, h3]
theorem Pst.retC {k : Nat} {fn : Func} {R : Value → World → Prop} {rs : List ResultVar} {vs : List Value} (hr : fn.results = rs.toArray) (h : Resv P l w rs vs) (hR : R (wrapRes vs) w) : Pst (.bare k) (bodyPost P fn (RR R)) .ret l w := by
  intro a ha
  exact ⟨ha.defers.trans rfl, _, run_results ha hr h, _, rfl, hR⟩
/-- its end, behind the loop -/
theorem Pst.retM {k D : Nat} {fn : Func} {R : Value → World → Prop} {rs : List ResultVar} {F : List Res} (H : Hp b S w (rObj D (.deferred (some [])) :: F)) (hr : fn.results = rs.toArray)
    (h : ∀ w', Hp b S w' F → ∃ vs, Resv P l w' rs vs ∧ R (wrapRes vs) w') : Pst (.marked k D) (bodyPostM Fence.wide 0 P fn (RR R)) .ret l w := by
  intro a ha
  show LeavesInM Fence.wide 0 P fn a.tmps (RR R) a.defers .returning w
  rw [ha.defers]
  have h1 := run_takeDeferred (P := P) (H.obj s0)
  have h2 := (H.putObj s0 (.deferred none)).tail
  obtain ⟨vs, h3, h4⟩ := h _ h2
  refine ⟨by simp, .inl ⟨D, _, rfl, h1, ?_⟩⟩
  exact ⟨_, run_results ha hr h3, _, rfl, h4⟩
/-- ahead of it -/
theorem Pst.retB {k : Nat} {fn : Func} {R : Value → World → Prop} {rs : List ResultVar} {vs : List Value} (hr : fn.results = rs.toArray) (h : Resv P l w rs vs) (hR : R (wrapRes vs) w) : Pst (.bare k) (bodyPostM Fence.wide 0 P fn (RR R)) .ret l w := by
  intro a ha
  show LeavesInM Fence.wide 0 P fn a.tmps (RR R) a.defers .returning w
  rw [ha.defers]
  exact ⟨_, run_results ha hr h, _, rfl, hR⟩
/-- a call of yield -/
theorem WL.yield {Q : Exit → Act → World → Prop} {K : Act → World → Prop} {ops : Array Oper} {os : List Oper} {ty : TypeId} {pos : String} {aft : Array Edge} {d lr : Nat} {fop : Operand} {args : List Operand} {tys : Array TypeId} {vs : List Value} {R : Ending → World → Prop} {g : Option (Nat × Bool)}
    (hg : match g with | none => True | some (j, want) => guardOf ops l j = some (.bool want)) (hf : evl l fop = some (.func (.yield lr) #[] #[])) (hargs : evls l args = some vs) (hy : YieldAt Fence.wide 0 P lr vs.toArray w R) (hR : ∀ e w', R e w' → ∃ v, e = .returned v) (hd : Nat.blt d n.size = true) (hro : n.round = none) (hp : n.plain = false)
    (k : ∀ v w', R (.returned v) w' → WL P n ops Q K os ((d, v) :: l) w') : WL P n ops Q K (⟨some d, .call ⟨.value fop, args.toArray, tys⟩, ty, pos, aft, g⟩ :: os) l w := by
  intro a ha
  unfold wpK
  have hw : Region.wanted ⟨some d, .call ⟨.value fop, args.toArray, tys⟩, ty, pos, aft, g⟩ (yielded ops a.tmps) = true := by
    match g, hg with
    | none, _ => rfl
    | some (j, want), hg => exact wanted_some hg a ha
  rw [if_pos hw]
  unfold opw
  rw [hp]
  obtain ⟨fn, tmps, assign, body, hy1, hy2⟩ := hy
  refine ⟨fun _ _ => trivial, ?_⟩
  have hrun : (execOp a.eval ⟨some d, .call ⟨.value fop, args.toArray, tys⟩, ty, pos, aft, g⟩).run P w = .ok (.round lr fn tmps assign body) w := by
    unfold execOp
    have h1 := ha.eval hf
    have h2 := ha.evals hargs
    simp only [resolve, h1, Deferred.ofValue, Sem.run_bind, Sem.run_pure, Result.andThen_ok, invoke]
    have : (#[] ++ Array.map a.eval args.toArray : Array Value) = vs.toArray := by
      rw [List.map_toArray, h2]; simp
    rw [this]
    exact hy1
  have hrd : n.fence.round = none := hro
  rw [hrd, Oper.semAt_none, hrun]
  rw [Cx.fence_wide hro]
  refine ⟨fun h => (by cases h), RoundIn.mono hy2 ?_⟩
  rintro e w' hq
  obtain ⟨v, rfl⟩ := hR e w' hq
  exact k v w' hq _ (ha.put hd v)
end

section
variable {P : Program} {n : Cx} {l l' : List (Nat × Value)} {b w : World} {S : Nat → Prop} {ops : Array Oper} {T : World → Prop} {op : Op} {ty : TypeId} {pos : String} {aft : Array Edge} {d j : Nat} {want : Bool} {v : Value}
theorem Qi.ev (h : ∀ w, T w → Ev P n l w op v) : Qi P n ops T l ⟨some d, op, ty, pos, aft, none⟩ v := fun a w ha hT => .inl ⟨wanted_none a, .inl (h w hT _ a w rfl ha (Ext.refl w))⟩
theorem Qi.evg (hg : guardOf ops l j = some (.bool want)) (h : ∀ w, T w → Ev P n l w op v) : Qi P n ops T l ⟨some d, op, ty, pos, aft, some (j, want)⟩ v := fun a w ha hT => .inl ⟨wanted_some hg a ha, .inl (h w hT _ a w rfl ha (Ext.refl w))⟩
theorem Qi.pass {u : Value} (hg : guardOf ops l j = some u) (hv : unlike want u = true) : Qi P n ops T l ⟨some d, op, ty, pos, aft, some (j, want)⟩ undef := fun a w ha hT => .inr ⟨by
  show (yielded ops a.tmps j == some want) = false
  rw [yielded_of ha hg]
  cases u <;> simp [unlike] at hv ⊢
  cases want <;> simp_all, rfl⟩
theorem Qi.call {fop : Operand} {args : List Operand} {tys : Array TypeId} {f : FuncId} {caps vs all : List Value} (hf : evl l fop = some (.func (.func f) #[] caps.toArray)) (hargs : evls l args = some vs) (hall : vs ++ caps = all) (hcal : Callable P f)
    (hc : ∀ w, T w → Rets P f all.toArray w fun u w' => u = v ∧ T w') : Qi P n ops T l ⟨some d, .call ⟨.value fop, args.toArray, tys⟩, ty, pos, aft, none⟩ v := fun a w ha hT => .inl ⟨wanted_none a, .inr ⟨f, all.toArray, run_callv rfl ha hf hargs hall hcal w, hc w hT⟩⟩
theorem Qi.callg {fop : Operand} {args : List Operand} {tys : Array TypeId} {f : FuncId} {caps vs all : List Value} (hg : guardOf ops l j = some (.bool want)) (hf : evl l fop = some (.func (.func f) #[] caps.toArray)) (hargs : evls l args = some vs) (hall : vs ++ caps = all) (hcal : Callable P f)
    (hc : ∀ w, T w → Rets P f all.toArray w fun u w' => u = v ∧ T w') : Qi P n ops T l ⟨some d, .call ⟨.value fop, args.toArray, tys⟩, ty, pos, aft, some (j, want)⟩ v := fun a w ha hT => .inl ⟨wanted_some hg a ha, .inr ⟨f, all.toArray, run_callv rfl ha hf hargs hall hcal w, hc w hT⟩⟩
theorem Pst.ap {α : Type} {G F1 : List Res} {Mid : List α → α → List (Nat × Value) → List Res → Prop} {pre : List α} {x : α} {l1 : List (Nat × Value)} (hM : Mid pre x l1 F1) (hs : Sb l l1) (H : Hp b S w (F1 ++ G)) : Pst n (APost n b S G Mid pre x) .normal l w := fun a ha => ⟨l1, F1, ha.sb hs, hM, H⟩
theorem Pst.rn {α : Type} {G F : List Res} {Jf : List α → List Res → Prop} {Jx : Code → List α → List Res → Prop} {pre : List α} (hJ : Jf pre F) (H : Hp b S w (F ++ G)) : Pst n (RPost b S G Jf Jx pre) .normal l w := fun _ _ => ⟨F, hJ, H⟩
theorem Pst.rx {α : Type} {G F : List Res} {Jf : List α → List Res → Prop} {Jx : Code → List α → List Res → Prop} {pre : List α} {id : Nat} (hJ : Jx (.exit id) pre F) (H : Hp b S w (F ++ G)) : Pst n (RPost b S G Jf Jx pre) (.exit id) l w := fun _ _ => ⟨F, hJ, H⟩
theorem WP.enterI {k : Nat} {f : FuncId} {fn : Func} {c : Code} {y : Value} {caps : List Value} {R : Ending → World → Prop} (hf : P.funcs[f]? = some fn) (hb : fn.body = some c) (hn : fn.ntmps = k) (hle : Nat.ble (y :: caps).length k = true)
    (h : WP P (.bare k) c (enum 0 (y :: caps)) w (bodyPost P fn R)) : CallsIn Fence.wide 0 P f (#[y] ++ caps.toArray) w R := by
  have e : #[y] ++ caps.toArray = (y :: caps).toArray := by simp
  rw [e]
  refine callsIn_wide.2 (calls_of_wp hf hb (wpIn_wide.1 (h _ ⟨rfl, ?_, fun i v hv => ?_⟩)))
  · have := Nat.le_of_ble_eq_true hle
    simp [hn] at this ⊢; omega
  · obtain ⟨_, h2⟩ := look_enum _ 0 i v hv
    have hi : i < (y :: caps).length := (List.getElem?_eq_some_iff.1 h2).1
    simp only [Nat.sub_zero] at h2
    have h3 := (List.getElem?_eq_some_iff.1 h2).2
    have hi' : i < (y :: caps).toArray.size := by simpa using hi
    simp only [Array.getD_eq_getD_getElem?, Array.getElem?_append_left hi', List.getElem?_toArray, h2, Option.getD_some]
theorem Pst.retI {k : Nat} {fn : Func} {R : Ending → World → Prop} (hr : fn.results = #[]) (hR : R (.returned (.tuple #[])) w) : Pst (.bare k) (bodyPost P fn R) .ret l w := by
  intro a ha
  exact ⟨ha.defers.trans rfl, _, run_results (rs := []) (vs := []) ha hr rfl, hR⟩
theorem Pst.normI {k : Nat} {fn : Func} {R : Ending → World → Prop} (h : Pst (.bare k) (bodyPost P fn R) .ret l w) : Pst (.bare k) (bodyPost P fn R) .normal l w := h
end
end Go.Proofs.YtjcklpooaaaglaaGreat
set_option linter.all false
namespace Go.Proofs.YtjcklpooaaaglaaGreat
open Go.RowKit

/-! ### delete -/
section
variable {P : Program} {w : World}
end
section
variable {P : Program} {n : Cx} {l : List (Nat × Value)} {b w : World} {S : Nat → Prop} {rs rest : List Res} {Q : Exit → Act → World → Prop} {K : Act → World → Prop} {ops : Array Oper} {os : List Oper} {ty : TypeId} {pos : String} {aft : Array Edge} {d : Nat}
theorem Rel.len {α : Type} {τ : Ty α} {S : Nat → Prop} {xs : List α} {us : List (Cells τ.k)} (h : Rel τ S w xs us) : us.length = xs.length := h.1
theorem WL.valn {o : Oper} {v : Value} (hw : ∀ a, Has n l a → Region.wanted o (yielded ops a.tmps) = true) (hdst : o.dst = none) {R : World → Prop}
    (hrun : ∀ a, Has n l a → ∃ w', (execOp a.eval o).run P w = .ok (.value v) w' ∧ R w') (k : ∀ w', R w' → WL P n ops Q K os l w') : WL P n ops Q K (o :: os) l w := by
  intro a ha
  obtain ⟨w', hr, hR⟩ := hrun a ha
  unfold wpK
  rw [if_pos (hw a ha)]
  refine opw_value hr ?_
  rw [hdst]
  exact k w' hR a ha
/-- what lies behind an own row is cleared -/
theorem clrs {α : Type} {τ : Ty α} {t e : TypeId} {bytes c m : Nat} {A : Option Addr} {xs : List α} {x : Operand} (H : Hp b S w rs) (s : Sel rs (rOwn τ e A c xs) rest) (hx : evl l x = some (.slice (cutA A c xs.length τ.k) m (c - xs.length))) (hT : P.underlying t = some (.slice e)) (hz : ElemZero P e τ.k bytes) (hm : xs.length + m ≤ c)
    (k : ∀ w', Hp b S w' (rOwn τ e A c xs :: rest) → WL P n ops Q K os l w') : WL P n ops Q K (⟨none, .call ⟨.builtin .clear, #[x], #[t]⟩, ty, pos, aft, none⟩ :: os) l w := by
  obtain ⟨us, hU, hr⟩ := H.raw s
  have hl := hr.1
  obtain ⟨w', hrun, ho', hg, hz'⟩ := run_clearSpare (P := P) (ty := ty) (m := m) hT hz hU (by rw [hl]; exact hm)
  rw [hl] at hrun
  refine WL.valn (v := .tuple #[]) (fun a _ => wanted_none a) rfl (R := fun w2 => w2 = w') (fun a ha => ⟨w', ?_, rfl⟩) fun w2 e => ?_
  · unfold execOp
    simp only [resolve, Sem.run_bind, Sem.run_pure, Result.andThen_ok, invoke, builtin, List.map_toArray, List.map_cons, List.map_nil, ha.eval hx, hrun]
  · rw [e]
    exact k w' (H.back (β := Unit) s ho' hr hg (fun g hg' => .inl hg'))
theorem Ev.nilCheck {x : Operand} {p : Addr} (hx : evl l x = some (.pointer (some p))) : Ev P n l w (.nilCheck x) (.pointer (some p)) := fun o a w' ho ha _ => by
  unfold execOp; rw [ho]; simp [ha.eval hx]
end

/-! ### a row whose elements hold rows of the call's own -/
/-- rows of the call's own, each apart from the others -/
def rRows {α : Type} (τ : Ty α) (e : TypeId) (L : List (Option Addr × Nat × List α)) : Res where
  W := fun g => ∃ r ∈ L, blk r.1 = some g
  ok := fun S w => (∀ r ∈ L, Own τ e 0 S w r.1 r.2.1 r.2.2) ∧ L.Pairwise fun (p q : Option Addr × Nat × List α) => ∀ g, blk p.1 = some g → blk q.1 ≠ some g
  sub := fun hs h => ⟨fun r hr => (h.1 r hr).low (Nat.le_refl _) hs, h.2⟩
  keep := fun hm h => ⟨fun r hr => (h.1 r hr).keep fun g hg => hm g (hg.imp (fun h => ⟨r, hr, h⟩) id), h.2⟩
/-- rows that may be read -/
def rIns {α : Type} (τ : Ty α) (L : List (Option Addr × Nat × List α)) : Res where
  W := fun _ => False
  ok := fun S w => ∀ r ∈ L, Sl τ S w r.1 r.2.1 r.2.2
  sub := fun hs h => fun r hr => (h r hr).sub hs
  keep := fun hm h => fun r hr => (h r hr).keep fun g hg => hm g (.inr hg)
section
variable {α : Type} {τ : Ty α} {e : TypeId} {b w : World} {S : Nat → Prop} {rs rest rest2 : List Res} {L : List (Option Addr × Nat × List α)}
theorem Hp.rows0 (H : Hp b S w rs) (τ : Ty α) (e : TypeId) : Hp b S w (rRows τ e [] :: rs) :=
  H.new (r := rRows τ e []) (Ext.refl w) (fun g ⟨r, hr, _⟩ => by simp at hr) ⟨fun r hr => by simp at hr, List.Pairwise.nil⟩
/-- two resources become one -/
theorem Hp.join {r1 r2 r : Res} (H : Hp b S w (r1 :: r2 :: rs)) (hW : ∀ g, r.W g ↔ r1.W g ∨ r2.W g) (hok : ∀ {S' : Nat → Prop}, r1.ok S' w → r2.ok S' w → (∀ g, r1.W g → ¬ r2.W g) → r.ok S' w) : Hp b S w (r :: rs) := by
  have h1 := List.pairwise_cons.1 H.dis
  have h2 := List.pairwise_cons.1 h1.2
  have hs : ∀ g, Rd b S (r1 :: r2 :: rs) w g → Rd b S (r :: rs) w g := by
    rintro g (h | ⟨h3, h4, h5⟩)
    · exact .inl h
    · refine .inr ⟨h3, h4, fun q hq => ?_⟩
      rcases List.mem_cons.1 hq with rfl | hq
      · intro h; rcases (hW g).1 h with h | h
        · exact h5 r1 (by simp) h
        · exact h5 r2 (by simp) h
      · exact h5 q (by simp [hq])
  refine ⟨H.ext, fun q hq => ?_, fun q hq g hg => ?_, List.pairwise_cons.2 ⟨fun q hq g hg => ?_, h2.2⟩⟩
  · rcases List.mem_cons.1 hq with rfl | hq
    · exact q.sub hs (hok (H.ok r1 (by simp)) (H.ok r2 (by simp)) (h1.1 r2 (by simp)))
    · exact q.sub hs (H.ok q (by simp [hq]))
  · rcases List.mem_cons.1 hq with rfl | hq
    · rcases (hW g).1 hg with h | h
      · exact H.lo r1 (by simp) g h
      · exact H.lo r2 (by simp) g h
    · exact H.lo q (by simp [hq]) g hg
  · rcases (hW g).1 hg with h | h
    · exact h1.1 q (by simp [hq]) g h
    · exact h2.1 q hq g h
/-- one becomes two -/
theorem Hp.split {r1 r2 r : Res} (H : Hp b S w (r :: rs)) (hW : ∀ g, r.W g ↔ r1.W g ∨ r2.W g) (hok : ∀ {S' : Nat → Prop}, r.ok S' w → r1.ok S' w ∧ r2.ok S' w ∧ ∀ g, r1.W g → ¬ r2.W g) : Hp b S w (r1 :: r2 :: rs) := by
  have h1 := List.pairwise_cons.1 H.dis
  have h0 := hok (H.ok r (by simp))
  have hs : ∀ g, Rd b S (r :: rs) w g → Rd b S (r1 :: r2 :: rs) w g := by
    rintro g (h | ⟨h3, h4, h5⟩)
    · exact .inl h
    · refine .inr ⟨h3, h4, fun q hq => ?_⟩
      rcases List.mem_cons.1 hq with rfl | hq
      · exact fun h => h5 r (by simp) ((hW g).2 (.inl h))
      · rcases List.mem_cons.1 hq with rfl | hq
        · exact fun h => h5 r (by simp) ((hW g).2 (.inr h))
        · exact h5 q (by simp [hq])
  refine ⟨H.ext, fun q hq => ?_, fun q hq g hg => ?_, List.pairwise_cons.2 ⟨fun q hq g hg => ?_, List.pairwise_cons.2 ⟨fun q hq g hg => h1.1 q hq g ((hW g).2 (.inr hg)), h1.2⟩⟩⟩
  · rcases List.mem_cons.1 hq with rfl | hq
    · exact q.sub hs h0.1
    · rcases List.mem_cons.1 hq with rfl | hq
      · exact q.sub hs h0.2.1
      · exact q.sub hs (H.ok q (by simp [hq]))
  · rcases List.mem_cons.1 hq with rfl | hq
    · exact H.lo r (by simp) g ((hW g).2 (.inl hg))
    · rcases List.mem_cons.1 hq with rfl | hq
      · exact H.lo r (by simp) g ((hW g).2 (.inr hg))
      · exact H.lo q (by simp [hq]) g hg
  · rcases List.mem_cons.1 hq with rfl | hq
    · exact h0.2.2 g hg
    · exact h1.1 q hq g ((hW g).2 (.inl hg))
theorem Hp.rowsPush {B : Option Addr} {d : Nat} {xs : List α} (H : Hp b S w rs) (s : Sel rs (rOwn τ e B d xs) rest) (s' : Sel rest (rRows τ e L) rest2) : Hp b S w (rRows τ e (L ++ [(B, d, xs)]) :: rest2) := by
  have H1 : Hp b S w (rOwn τ e B d xs :: rRows τ e L :: rest2) := (H.sel s).perm (s'.perm.cons _)
  refine H1.join (fun g => ?_) (fun {S'} h1 h2 h3 => ?_)
  · constructor
    · rintro ⟨r, hr, hg⟩
      rcases List.mem_append.1 hr with hr | hr
      · exact .inr ⟨r, hr, hg⟩
      · rw [List.mem_singleton.1 hr] at hg; exact .inl hg
    · rintro (h | ⟨r, hr, hg⟩)
      · exact ⟨(B, d, xs), by simp, h⟩
      · exact ⟨r, by simp [hr], hg⟩
  · refine ⟨fun r hr => ?_, List.pairwise_append.2 ⟨h2.2, List.pairwise_singleton _ _, fun p hp q hq g hg hq' => ?_⟩⟩
    · rcases List.mem_append.1 hr with hr | hr
      · exact h2.1 r hr
      · rw [List.mem_singleton.1 hr]; exact h1
    · rw [List.mem_singleton.1 hq] at hq'
      exact h3 g hq' ⟨p, hp, hg⟩
theorem eraseIdx_split {β : Type} {L : List β} {i : Nat} {x : β} (hx : L[i]? = some x) : L = L.take i ++ x :: L.drop (i + 1) ∧ L.eraseIdx i = L.take i ++ L.drop (i + 1) := by
  have hi := lt_of_get hx
  constructor
  · rw [← (List.getElem?_eq_some_iff.1 hx).2, List.getElem_cons_drop, List.take_append_drop]
  · exact List.eraseIdx_eq_take_drop_succ L i
theorem Hp.rowsTake {i : Nat} {B : Option Addr} {d : Nat} {xs : List α} (H : Hp b S w rs) (s : Sel rs (rRows τ e L) rest) (hx : L[i]? = some (B, d, xs)) : Hp b S w (rOwn τ e B d xs :: rRows τ e (L.eraseIdx i) :: rest) := by
  obtain ⟨e1, e2⟩ := eraseIdx_split hx
  refine (H.sel s).split (fun g => ?_) (fun {S'} h => ?_)
  · constructor
    · rintro ⟨r, hr, hg⟩
      rw [e1] at hr
      rcases List.mem_append.1 hr with hr | hr
      · exact .inr ⟨r, by rw [e2]; simp [hr], hg⟩
      · rcases List.mem_cons.1 hr with rfl | hr
        · exact .inl hg
        · exact .inr ⟨r, by rw [e2]; simp [hr], hg⟩
    · rintro (h | ⟨r, hr, hg⟩)
      · exact ⟨(B, d, xs), List.mem_of_getElem? hx, h⟩
      · rw [e2] at hr
        refine ⟨r, ?_, hg⟩
        rw [e1]
        rcases List.mem_append.1 hr with hr | hr <;> simp [hr]
  · have h1 : ∀ r ∈ L.eraseIdx i, r ∈ L := fun r hr => List.mem_of_mem_eraseIdx hr
    have h2 := h.2
    rw [e1] at h2
    obtain ⟨h3, h4, h5⟩ := List.pairwise_append.1 h2
    obtain ⟨h6, h7⟩ := List.pairwise_cons.1 h4
    refine ⟨h.1 _ (List.mem_of_getElem? hx), ⟨fun r hr => h.1 r (h1 r hr), ?_⟩, ?_⟩
    · rw [e2]; exact List.pairwise_append.2 ⟨h3, h7, fun p hp q hq => h5 p hp q (by simp [hq])⟩
    · rintro g hg ⟨r, hr, hg'⟩
      rw [e2] at hr
      rcases List.mem_append.1 hr with hr | hr
      · exact h5 r hr (B, d, xs) (by simp) g hg' hg
      · exact h6 r hr g hg hg'
theorem Hp.inAt {B : Option Addr} {d : Nat} {xs : List α} (H : Hp b S w rs) (s : Sel rs (rIns τ L) rest) (hx : (B, d, xs) ∈ L) : Sl τ (Rd b S rs w) w B d xs := H.ok (rIns τ L) (s.perm.mem_iff.2 (by simp)) _ hx
/-- rows of the call's own are from now on to be read alone -/
theorem Hp.rowsFz (H : Hp b S w rs) (s : Sel rs (rRows τ e L) rest) : Hp b S w (rIns τ L :: rest) := by
  have H1 := H.sel s
  have hd := List.pairwise_cons.1 H1.dis
  have hs : ∀ g, Rd b S (rRows τ e L :: rest) w g → Rd b S (rIns τ L :: rest) w g := by
    rintro g (h | ⟨h3, h4, h5⟩)
    · exact .inl h
    · refine .inr ⟨h3, h4, fun q hq => ?_⟩
      rcases List.mem_cons.1 hq with rfl | hq
      · exact fun h => h
      · exact h5 q (by simp [hq])
  refine ⟨H.ext, fun q hq => ?_, fun q hq g hg => ?_, List.pairwise_cons.2 ⟨fun q hq g hg => hg.elim, hd.2⟩⟩
  · rcases List.mem_cons.1 hq with rfl | hq
    · intro r hr
      have h6 : Own τ e 0 (Rd b S (rRows τ e L :: rest) w) w r.1 r.2.1 r.2.2 := (H1.ok (rRows τ e L) (by simp)).1 r hr
      refine h6.slb (fun g hg => ?_) hs
      have h8 := H1.lo (rRows τ e L) (by simp) g ⟨r, hr, hg⟩
      refine .inr ⟨h8.1, h8.2, fun q hq => ?_⟩
      rcases List.mem_cons.1 hq with rfl | hq
      · exact fun h => h
      · exact hd.1 q hq g ⟨r, hr, hg⟩
    · exact q.sub hs (H1.ok q (by simp [hq]))
  · rcases List.mem_cons.1 hq with rfl | hq
    · exact hg.elim
    · exact H1.lo q (by simp [hq]) g hg
/-- the elements of a row, their addresses beside them -/
theorem Hp.recast {β γ : Type} {σ : Ty β} {ρ : Ty γ} {A : Option Addr} {c : Nat} {xs : List β} {ys : List γ} (H : Hp b S w rs) (s : Sel rs (rOwn σ e A c xs) rest) (hk : σ.k = ρ.k) (hl : ys.length = xs.length)
    (hR : ∀ (i : Nat) (x : β) (y : γ) (cs : List Value), xs[i]? = some x → ys[i]? = some y → σ.R (Rd b S rs w) w x cs → ρ.R (Rd b S rs w) w y cs) : Hp b S w (rOwn ρ e A c ys :: rest) := by
  have hsub : ∀ g, Rd b S rs w g → Rd b S (rOwn σ e A c xs :: rest) w g := Rd.perm s.perm
  refine (H.sel s).put (r' := rOwn ρ e A c ys) ⟨rfl, rfl, rfl, Nat.le_refl _, fun _ _ _ => rfl, Nat.le_refl _⟩ (fun g hg => .inl hg) ?_
  obtain ⟨css, h1, h2, h3⟩ := H.ow s
  refine Own.low (lo := b.heap.size) ⟨css, by rw [h1, hl], fun i y hy => ?_, ?_⟩ (Nat.zero_le _) hsub
  · obtain ⟨x, hx⟩ := get_some (xs := xs) (i := i) (by rw [← hl]; exact lt_of_get hy)
    obtain ⟨cs, h4, h5⟩ := h2 i x hx
    exact ⟨cs, h4, hR i x y cs hx hy h5⟩
  · rw [hk, ← hl] at h3
    exact h3
end
end Go.Proofs.YtjcklpooaaaglaaGreat
set_option linter.all false
namespace Go.Proofs.YtjcklpooaaaglaaGreat
open Go.RowKit

theorem Ext.grow_eq {w w' : World} (e : Ext w w') : ∃ (q : Nat) (os' : Array Obj), w' = Go.Sort.grow (w.drewN q) os' := by
  refine ⟨w'.drawn - w.drawn, w'.heap.extract w.heap.size w'.heap.size, ?_⟩
  obtain ⟨e1, e2, e3, e4, e5, e6⟩ := e
  obtain ⟨h, t, d, o, out⟩ := w
  obtain ⟨h', t', d', o', out'⟩ := w'
  simp only at e1 e2 e3 e4 e5 e6
  subst e1 e2 e3
  have hd : d + (d' - d) = d' := by omega
  have hh : h ++ h'.extract h.size h'.size = h' := by
    apply Array.ext_getElem?
    intro i
    by_cases hi : i < h.size
    · rw [Array.getElem?_append_left hi]; exact (e5 i hi).symm
    · rw [Array.getElem?_append_right (by omega), Array.getElem?_extract]
      by_cases hj : i < h'.size
      · rw [if_pos (by omega)]; congr 1; omega
      · rw [if_neg (by omega), Array.getElem?_eq_none (by omega)]
  simp only [Go.Sort.grow, World.drewN, hd, hh]

theorem flatK_list {α : Type} [Inhabited α] {enc : α → List Value} {k : Nat} (hk : ∀ x, (enc x).length = k) (ys : List α) : (Go.Sort.flatK enc k ys.toArray).toList = (ys.map enc).flatten := by
  apply List.ext_getElem?
  intro j
  have hl : ((ys.map enc).flatten).length = ys.length * k := by
    induction ys with
    | nil => simp
    | cons y ys ih => simp only [List.map_cons, List.flatten_cons, List.length_append, hk, ih, List.length_cons, Nat.add_mul, Nat.one_mul]; omega
  by_cases hj : j < ys.length * k
  · have hk0 : 0 < k := by
      rcases Nat.eq_zero_or_pos k with h | h
      · subst h; omega
      · exact h
    have hlt : j / k < ys.length := (Nat.div_lt_iff_lt_mul hk0).2 hj
    have hm : j % k < k := Nat.mod_lt _ hk0
    obtain ⟨y, hy⟩ := get_some (xs := ys) hlt
    have hyj : ys[j / k]! = y := by rw [List.getElem!_eq_getElem?_getD, hy]; rfl
    have hc : (enc y)[j % k]? = some (enc y)[j % k]! := by
      obtain ⟨u, hu⟩ := get_some (xs := enc y) (i := j % k) (by rw [hk]; exact hm)
      rw [List.getElem!_eq_getElem?_getD, hu]; rfl
    have h2 := flat_at (k := k) (ys.map enc) (by intro cs hcs; obtain ⟨x, _, rfl⟩ := List.mem_map.1 hcs; exact hk x) (j / k) (enc y) (by rw [List.getElem?_map, hy]; rfl) (j % k) _ hc
    rw [Nat.div_add_mod' j k] at h2
    rw [h2, Array.getElem?_toList]
    have hj' : j < (Go.Sort.flatK enc k ys.toArray).size := by rw [Go.Sort.size_flatK]; simpa using hj
    rw [Array.getElem?_eq_getElem hj', ← getElem!_pos _ j hj', Go.Sort.get_flatK enc k ys.toArray j (by simpa using hj)]
    simp [hyj]
  · rw [List.getElem?_eq_none (by rw [Array.length_toList, Go.Sort.size_flatK]; simpa using Nat.le_of_not_lt hj), List.getElem?_eq_none (by rw [hl]; omega)]

theorem holds_block {w : World} {g : Nat} {cur F : Array Value} {e : TypeId} (hb : w.heap[g]? = some (.cells cur e (0, 0))) (ht : cur.toList.take F.size = F.toList) : Go.Sort.Holds id w g 0 F := by
  intro j hj
  refine ⟨?_, by simp [World.frozen?, hb]⟩
  have h1 : (cur.toList.take F.size)[j]? = F.toList[j]? := by rw [ht]
  rw [List.getElem?_take_of_lt hj] at h1
  simp only [World.cell?, hb, Nat.zero_add]
  simp only [Option.isSome_none, Bool.false_eq_true, if_false]
  rw [← Array.getElem?_toList, h1, Array.getElem?_toList, getElem!_pos F j hj, Array.getElem?_eq_getElem hj]; rfl
theorem heap_sorted {w : World} {g n : Nat} {os : Array Obj} {cur F : Array Value} {e : TypeId} {fr : Nat × Nat} (hb : w.heap[g]? = some (.cells cur e fr)) :
    (Go.Sort.grow (Go.Sort.putRow id (Go.Sort.ahead w n) g 0 F) os).heap[g]? = some (.cells (Go.Sort.putCells id 0 F cur) e fr) := by
  have hg : g < w.heap.size := (Array.getElem?_eq_some_iff.1 hb).1
  rw [Go.Sort.heap_grow_old _ _ (by simpa using hg)]
  simp [Go.Sort.putRow, Go.Sort.mapBlock, Go.Sort.ahead, Array.getElem?_modify, hb, Go.Sort.onCells]
theorem wr_sorted {α : Type} [Inhabited α] {enc : α → Value} {b w : World} {W : Nat → Prop} {g n : Nat} {os : Array Obj} {F : Array α} (hW : W g) : Wr b w (Go.Sort.grow (Go.Sort.putRow enc (Go.Sort.ahead w n) g 0 F) os) W := by
  refine ⟨rfl, rfl, rfl, by simp, fun k hk hne => ?_, ?_⟩
  · rw [Go.Sort.heap_grow_old _ _ (by simpa using hk)]
    have : g ≠ k := fun e => hne (e ▸ hW)
    simp [Go.Sort.putRow, Go.Sort.mapBlock, Go.Sort.ahead, Array.getElem?_modify, this]
  · show w.drawn ≤ w.drawn + n; omega
theorem take_sorted (cur F : Array Value) (h : F.size ≤ cur.size) : (Go.Sort.putCells id 0 F cur).toList.take F.size = F.toList := by
  apply List.ext_getElem?
  intro j
  by_cases hj : j < F.size
  · rw [List.getElem?_take_of_lt hj, Array.getElem?_toList, Array.getElem?_toList]
    simp [Go.Sort.putCells, hj, show j < cur.size by omega]
  · rw [List.getElem?_take_eq_none (by omega), List.getElem?_eq_none (by simp; omega)]

section
variable {P : Program} {b w : World} {S : Nat → Prop} {F : List Res}
/-- the row of a flat own slice that is not nil -/
theorem Own.flat_open {α : Type} {k : Nat} {enc : α → List Value} {pos : 0 < k} {hl : ∀ x, (enc x).length = k} {h1 : ∀ x, ∀ u ∈ enc x, u.oneCell' = true} {e : TypeId} {lo c : Nat} {A : Option Addr} {xs : List α} (h : Own (Ty.flat k enc pos hl h1) e lo S w A c xs) (hne : xs ≠ []) :
    ∃ g cur, A = some ⟨g, 0, none⟩ ∧ lo ≤ g ∧ w.heap[g]? = some (.cells cur e (0, 0)) ∧ xs.length ≤ c ∧ c ≤ maxLen ∧ cur.size = c * k ∧ cur.toList.take (xs.length * k) = (xs.map enc).flatten := by
  obtain ⟨css, c1, c2, c3⟩ := h
  have hcss : css = xs.map enc := by
    apply List.ext_getElem?
    intro i
    rw [List.getElem?_map]
    cases hi : xs[i]? with
    | none => have := List.getElem?_eq_none_iff.1 hi; rw [List.getElem?_eq_none (by omega)]; rfl
    | some x =>
      obtain ⟨cs, h5, h6⟩ := c2 i x hi
      rw [h5, show cs = enc x from h6]; rfl
  rcases c3.2 with ⟨hv, hn⟩ | ⟨g, cap, cur, hv, hg, hh, hnc, hcm, hcs, ht⟩
  · exact absurd (List.eq_nil_of_length_eq_zero hn) hne
  · injection hv with hA hn' hc'
    subst hA hc'
    exact ⟨g, cur, rfl, hg, hh, hnc, hcm, hcs, by rw [← hcss]; exact ht⟩
theorem Own.flat_shut {α : Type} {k : Nat} {enc : α → List Value} {pos : 0 < k} {hl : ∀ x, (enc x).length = k} {h1 : ∀ x, ∀ u ∈ enc x, u.oneCell' = true} {e : TypeId} {lo c g : Nat} {xs : List α} {cur : Array Value} (hg : lo ≤ g) (hh : w.heap[g]? = some (.cells cur e (0, 0))) (hnc : xs.length ≤ c) (hcm : c ≤ maxLen) (hcs : cur.size = c * k) (ht : cur.toList.take (xs.length * k) = (xs.map enc).flatten) :
    Own (Ty.flat k enc pos hl h1) e lo S w (some ⟨g, 0, none⟩) c xs := by
  have hlen : ∀ ys : List α, ((ys.map enc).flatten).length = ys.length * k := by
    intro ys
    induction ys with
    | nil => simp
    | cons y ys ih => simp only [List.map_cons, List.flatten_cons, List.length_append, hl, ih, List.length_cons, Nat.add_mul, Nat.one_mul]; omega
  exact ⟨xs.map enc, by simp, fun i x hx => ⟨enc x, by rw [List.getElem?_map, hx]; rfl, rfl⟩, hlen xs, .inr ⟨g, c, cur, rfl, hg, hh, hnc, hcm, hcs, ht⟩⟩
/-- a world of the sort's: the row holds these; all else is as it was -/
theorem Hp.sorted {α : Type} [Inhabited α] {k : Nat} {enc : α → List Value} {pos : 0 < k} {hl : ∀ x, (enc x).length = k} {h1 : ∀ x, ∀ u ∈ enc x, u.oneCell' = true} {e c g n : Nat} {xs ys : List α} {os : Array Obj} {cur : Array Value} (H : Hp b S w (rOwn (Ty.flat k enc pos hl h1) e (some ⟨g, 0, none⟩) c xs :: F))
    (hh : w.heap[g]? = some (.cells cur e (0, 0))) (hnc : xs.length ≤ c) (hcm : c ≤ maxLen) (hcs : cur.size = c * k) (hy : ys.length = xs.length) :
    Hp b S (sortWorldK enc k w g 0 n ys.toArray os) (rOwn (Ty.flat k enc pos hl h1) e (some ⟨g, 0, none⟩) c ys :: F) := by
  have hsz : (Go.Sort.flatK enc k ys.toArray).size = ys.length * k := by rw [Go.Sort.size_flatK]; simp
  have hle : ys.length * k ≤ c * k := Nat.mul_le_mul_right k (by omega)
  refine H.put (r' := rOwn (Ty.flat k enc pos hl h1) e (some ⟨g, 0, none⟩) c ys) (wr_sorted (show (rOwn (Ty.flat k enc pos hl h1) e (some ⟨g, 0, none⟩) c xs).W g from rfl)) (fun q hq => .inl hq) ?_
  refine Own.flat_shut (Nat.zero_le _) (heap_sorted hh) (by omega) hcm (by simp [Go.Sort.putCells, hcs]) ?_
  have h2 := take_sorted cur (Go.Sort.flatK enc k ys.toArray) (by rw [hsz, hcs]; exact hle)
  rw [hsz, flatK_list hl] at h2
  exact h2
open Go.Sort in
theorem sortf {ρ : Go.Shelf.Ren} (L : SlLaysF0.n6 P ρ) {α : Type} [Inhabited α] {k : Nat} {enc : α → List Value} {pos : 0 < k} {hl : ∀ x, (enc x).length = k} {h1 : ∀ x, ∀ u ∈ enc x, u.oneCell' = true} (aE : ∀ w, (isAgg (ρ.t 24)).run P w = .ok true w) (zE : ∀ w, (Go.sizeOf (ρ.t 24)).run P w = .ok k w)
    {cf : α → α → Int} (hO : SWO (ltOf cf)) {g : Nat} {cb : Array Value} {e c : Nat} {A : Option Addr} {xs : List α} (H : Hp b S w (rOwn (Ty.flat k enc pos hl h1) e A c xs :: F)) (eg : ∀ args w, (callFunc g args).run P w = .ok (.enter g args) w) (hn : xs.length ≤ 1000000) (hne : xs ≠ [])
    (hcmp : ∀ (w' : World) (ys : List α), ys.length = xs.length → Hp b S w' (rOwn (Ty.flat k enc pos hl h1) e A c ys :: F) → ∀ x y : α, Rets P g (#[.agg (enc x).toArray, .agg (enc y).toArray] ++ cb) w' fun v w'' => v = .int .i64 (cf x y) ∧ Ext w' w'') :
    Rets P (ρ.f 6) #[.slice A xs.length c, .func (.func g) #[] cb] w fun v w' => v = .tuple #[] ∧ ∃ ys : List α, ys.Perm xs ∧ (ys.Pairwise fun x y => ¬ cf y x < 0) ∧ Hp b S w' (rOwn (Ty.flat k enc pos hl h1) e A c ys :: F) := by
  obtain ⟨q, cur, rfl, hq, hh, hnc, hcm, hcs, ht⟩ := Own.flat_open (H.ow s0) hne
  have hqs : q < w.heap.size := (Array.getElem?_eq_some_iff.1 hh).1
  have hH : Go.Sort.HoldsK enc k w q 0 xs.toArray := by
    refine holds_block hh ?_
    rw [flatK_list hl, Go.Sort.size_flatK]; simpa using ht
  have hc : CmpLays P g cb enc k cf q 0 xs.toArray.size w := by
    intro m os dk hdk x y
    obtain ⟨ys, rfl⟩ : ∃ ys : List α, dk = ys.toArray := ⟨dk.toList, by simp⟩
    have hy : ys.length = xs.length := by simpa using hdk
    have h3 := hcmp _ ys hy (H.sorted (n := m) (os := os) hh hnc hcm hcs hy) x y
    refine Calls.mono h3 ?_
    rintro e' w' ⟨v, rfl, rfl, ex⟩
    obtain ⟨q', os', hw⟩ := ex.grow_eq
    exact ⟨rfl, q', os', hw⟩
  have h4 := AnyQ.slices_SortFunc L k aE zE enc hl h1 cf hO g cb q 0 c xs.toArray w eg hc hH hqs (by simp; omega)
  simp only [List.size_toArray] at h4
  refine Calls.mono h4 ?_
  rintro e' w' ⟨rfl, d', n, os, hp, hs, rfl⟩
  obtain ⟨ys, rfl⟩ : ∃ ys : List α, d' = ys.toArray := ⟨d'.toList, by simp⟩
  have hsz : ys.length = xs.length := by simpa using hp.1
  refine ⟨_, rfl, rfl, ys, ?_, ?_, H.sorted hh hnc hcm hcs hsz⟩
  · have := hp.2.2
    simp only [List.size_toArray, List.extract_toArray, List.extract_eq_drop_take, List.drop_zero, Nat.sub_zero] at this
    rwa [List.take_of_length_le (by omega), List.take_of_length_le (Nat.le_refl _)] at this
  · rw [List.pairwise_iff_getElem]
    intro i j hi hj hij hlt
    have := hs i j (Nat.zero_le _) hij (by omega)
    simp only [ltOf] at this
    rw [getElem!_pos ys.toArray j (by simpa using hj), getElem!_pos ys.toArray i (by simpa using hi)] at this
    simp only [List.getElem_toArray] at this
    simp at this
    omega
open Go.Sort in
theorem sortf0 {ρ : Go.Shelf.Ren} (L : SlLaysF0.n6 P ρ) {α : Type} {τ : Ty α} {fv : Value} {e c : Nat} {A : Option Addr} {xs : List α} (H : Hp b S w (rOwn τ e A c xs :: F)) (hne : xs = []) :
    Rets P (ρ.f 6) #[.slice A xs.length c, fv] w fun v w' => v = .tuple #[] ∧ Hp b S w' (rOwn τ e A c xs :: F) := by
  subst hne
  refine Calls.mono (AnyF.slices_SortFunc_none L A c fv w) ?_
  rintro e' w' ⟨rfl, rfl⟩
  exact ⟨_, rfl, rfl, H⟩
theorem ints_flat : ∀ zs : List Int, (zs.map fun x : Int => [Value.int .i64 x]).flatten = zs.map (Value.int .i64)
  | [] => rfl
  | z :: zs => by simp [ints_flat zs]
open Go.Sort in
theorem sorti {ρ : Go.Shelf.Ren} (L : Lays.n189 P ρ) {e c : Nat} {A : Option Addr} {xs : List Int} {hl : ∀ x : Int, ([Value.int .i64 x] : List Value).length = 1} {pos : 0 < 1} {h1 : ∀ x : Int, ∀ u ∈ ([Value.int .i64 x] : List Value), u.oneCell' = true} (H : Hp b S w (rOwn (Ty.flat 1 (fun x : Int => [.int .i64 x]) pos hl h1) e A c xs :: F)) (hn : xs.length ≤ 1000000) :
    Rets P (ρ.f 189) #[.slice A xs.length c] w fun v w' => v = .tuple #[] ∧ Hp b S w' (rOwn (Ty.flat 1 (fun x : Int => [.int .i64 x]) pos hl h1) e A c (xs.mergeSort fun x y => decide (x ≤ y)) :: F) := by
  by_cases hne : xs = []
  · subst hne
    refine Calls.mono (Any.slices_Sort_int_none L A c w) ?_
    rintro e' w' ⟨rfl, rfl⟩
    exact ⟨_, rfl, rfl, by simpa using H⟩
  · obtain ⟨q, cur, rfl, hq, hh, hnc, hcm, hcs, ht⟩ := Own.flat_open (H.ow s0) hne
    have hqs : q < w.heap.size := (Array.getElem?_eq_some_iff.1 hh).1
    have hH : Holds (Value.int .i64) w q 0 xs.toArray := holds_of_blockI hh (by rw [← ints_flat, ← ht, Nat.mul_one])
    refine Calls.mono (Any.slices_Sort_int L q 0 c xs w hH hqs (by omega)) ?_
    rintro e' w' ⟨rfl, n, os, rfl⟩
    have hsz : (xs.mergeSort fun x y => decide (x ≤ y)).length = xs.length := List.length_mergeSort _
    refine ⟨_, rfl, rfl, H.put (r' := rOwn (Ty.flat 1 (fun x : Int => [.int .i64 x]) pos hl h1) e (some ⟨q, 0, none⟩) c (xs.mergeSort fun x y => decide (x ≤ y))) (wr_sorted (show (rOwn (Ty.flat 1 (fun x : Int => [.int .i64 x]) pos hl h1) e (some ⟨q, 0, none⟩) c xs).W q from rfl)) (fun q hq => .inl hq) ?_⟩
    refine Own.flat_shut (Nat.zero_le _) (heap_sortedI _ hh) (by omega) hcm (by simp [putCells, hcs]) ?_
    rw [Nat.mul_one, ints_flat]
    exact take_putCellsI cur _ (by rw [hsz, hcs]; omega)
open Go.Sort in
/-- slices.SortFunc where elements that are told as equal are the same: the sorted list is known -/
theorem sortU {ρ : Go.Shelf.Ren} (L : SlLaysF0.n6 P ρ) {α : Type} [Inhabited α] {k : Nat} {enc : α → List Value} {pos : 0 < k} {hl : ∀ x, (enc x).length = k} {h1 : ∀ x, ∀ u ∈ enc x, u.oneCell' = true} (aE : ∀ w, (isAgg (ρ.t 24)).run P w = .ok true w) (zE : ∀ w, (Go.sizeOf (ρ.t 24)).run P w = .ok k w)
    {cf : α → α → Int} (hO : SWO (ltOf cf)) {g : Nat} {cb : List Value} {e c : Nat} {A : Option Addr} {xs : List α} (H : Hp b S w (rOwn (Ty.flat k enc pos hl h1) e A c xs :: F)) (eg : ∀ args w, (callFunc g args).run P w = .ok (.enter g args) w) (hn : xs.length ≤ 1000000) (hu : ∀ x ∈ xs, ∀ y ∈ xs, ¬ cf x y < 0 → ¬ cf y x < 0 → x = y)
    (hcmp : ∀ (w' : World) (ys : List α), ys.length = xs.length → Hp b S w' (rOwn (Ty.flat k enc pos hl h1) e A c ys :: F) → ∀ x y : α, Rets P g (([.agg (enc x).toArray, .agg (enc y).toArray] : List Value) ++ cb).toArray w' fun v w'' => v = .int .i64 (cf x y) ∧ Ext w' w'') :
    Rets P (ρ.f 6) #[.slice A xs.length c, .func (.func g) #[] cb.toArray] w fun v w' => v = .tuple #[] ∧ Hp b S w' (rOwn (Ty.flat k enc pos hl h1) e A c (xs.mergeSort fun x y => !decide (cf y x < 0)) :: F) := by
  by_cases hne : xs = []
  · have h := sortf0 L (fv := .func (.func g) #[] cb.toArray) H hne
    refine h.mono ?_
    rintro v w' ⟨rfl, K⟩
    subst hne
    exact ⟨rfl, by simpa using K⟩
  · have h := sortf L aE zE hO H eg hn hne (cb := cb.toArray) (fun w' ys hy K x y => by have := hcmp w' ys hy K x y; simpa using this)
    refine h.mono ?_
    rintro v w' ⟨rfl, ys, hp, hs, K⟩
    have hms : (xs.mergeSort fun x y => !decide (cf y x < 0)).Pairwise fun x y => ¬ cf y x < 0 := by
      have h := List.pairwise_mergeSort (le := fun x y => !decide (cf y x < 0)) (fun a b c h1 h2 => by
        have h3 := hO.ntrans c b a
        simp only [ltOf, Bool.not_eq_true', decide_eq_false_iff_not] at h1 h2 h3 ⊢
        exact h3 h2 h1) (fun a b => by
        by_cases h1 : cf b a < 0
        · by_cases h2 : cf a b < 0
          · have h3 := hO.trans a b a (by simp [ltOf, h2]) (by simp [ltOf, h1])
            rw [hO.irrefl] at h3; cases h3
          · simp [h2]
        · simp [h1]) xs
      exact h.imp (fun {a b} h => by simpa using h)
    have he : ys = xs.mergeSort fun x y => !decide (cf y x < 0) :=
      List.Perm.eq_of_pairwise (le := fun x y => ¬ cf y x < 0) (fun a b ha hb h1 h2 => hu a (hp.mem_iff.1 ha) b (List.mem_mergeSort.1 hb) h2 h1) hs hms (hp.trans (List.mergeSort_perm xs _).symm)
    rw [he] at K
    exact ⟨rfl, K⟩
end
end Go.Proofs.YtjcklpooaaaglaaGreat
set_option linter.all false
namespace Go.Proofs.YtjcklpooaaaglaaGreat
open Go.RowKit

instance {g : Nat} {o : Obj} : FlatR (rObj g o) := ⟨fun h => h⟩
section
variable {P : Program} {n : Cx} {l : List (Nat × Value)} {b w : World} {S : Nat → Prop} {rs rest : List Res} {Q : Exit → Act → World → Prop} {K : Act → World → Prop} {ops : Array Oper} {os : List Oper} {ty : TypeId} {pos : String} {aft : Array Edge} {d : Nat}
theorem Ev.neg {t : TypeId} {x : Operand} {a : Int} (hx : evl l x = some (.int .i64 a)) (h : I64 (-a)) : Ev P n l w (.unOp .neg t x) (.int .i64 (-a)) := fun o a' w' ho ha _ => by
  unfold execOp; rw [ho]
  have h2 : (Op.unary .neg (.int .i64 a)).run P w' = .ok (.int .i64 (-a)) w' := by
    have h3 : IntKind.i64.wrap (0 - a) = -a := by rw [Int.zero_sub]; exact h.wrap
    have h4 : (Op.unary .neg (.int .i64 a)).run P w' = .ok (.int .i64 (IntKind.i64.wrap (0 - a))) w' := rfl
    rw [h4, h3]
  simp [ha.eval hx, h2]
/-- 'make(map[K]V)' -/
theorem mkm {t : TypeId} (H : Hp b S w rs) (hd : Nat.blt d n.size = true) (k : ∀ g w', Hp b S w' (rObj g (.map #[] 0) :: rs) → WL P n ops Q K os ((d, .map (some g)) :: l) w') : WL P n ops Q K (⟨some d, .makeMap t none, ty, pos, aft, none⟩ :: os) l w :=
  WL.val (v := .map (some w.heap.size)) (fun a _ => wanted_none a) rfl hd (R := fun w2 => w2 = w.alloc (.map #[] 0)) (fun a ha => ⟨_, rfl, rfl⟩) fun w2 e => by
    subst e; exact k _ _ (H.newObj (.map #[] 0))
theorem run_look {t kt et : TypeId} {z : Int} {g clk : Nat} {es : Array MapEntry} {v : Value} {i : Nat} (hm : P.underlying t = some (.map kt et)) (hk : P.underlying kt = some (.int .i64)) (hb : w.heap[g]? = some (.map es clk)) (hf : Instr.findNow (.int .i64) (.int .i64 z) es.toList 0 = some (some (i, v))) :
    (Instr.lookup t (.map (some g)) (.int .i64 z) false).run P w = .ok v w := by
  have h1 : ∀ e, (Instr.checkKey e 10000 kt (.int .i64 z)).run P w = .ok () w := fun e => MapKept.run_checkKey (n := 9999) (k := .int .i64 z) hk (by simp [MapKept.IsKey]) e
  have h2 : (Instr.findKey kt (.int .i64 z) es.toList).run P w = .ok (some (i, v)) w := MapKept.run_findKey hk hf
  unfold Instr.lookup
  simp only [Sem.run_bind, run_underlying hm, Result.andThen_ok, MapKept.run_getObj_map hb, h1, h2, Sem.run_pure]
  rfl
theorem Ev.look {t kt et : TypeId} {m ky : Operand} {z : Int} {g clk i : Nat} {es : Array MapEntry} {v : Value} (H : Hp b S w rs) (s : Sel rs (rObj g (.map es clk)) rest) (hx : evl l m = some (.map (some g))) (hkey : evl l ky = some (.int .i64 z))
    (hm : P.underlying t = some (.map kt et)) (hk : P.underlying kt = some (.int .i64)) (hf : Instr.findNow (.int .i64) (.int .i64 z) es.toList 0 = some (some (i, v))) : Ev P n l w (.lookup t m ky false) v := fun o a w' ho ha ex => by
  have hb : w'.heap[g]? = some (.map es clk) := (ex.block g (Array.getElem?_eq_some_iff.1 (H.obj s)).1).trans (H.obj s)
  unfold execOp; rw [ho]; simp [ha.eval hx, ha.eval hkey, run_look hm hk hb hf]
end
end Go.Proofs.YtjcklpooaaaglaaGreat
