/- Rows that are cut in place; rows of rows of the call's own; pointers. -/
import Derived.Test.YtlnjmkmhmbijmaaGreatM6
set_option linter.all false
namespace Go.Proofs.YtlnjmkmhmbijmaaGreat
open Go.RowKit

/-! ### delete -/
section
variable {P : Program} {w : World}
theorem run_appendSelf {k : Nat} {kp : 0 < k} {t e ty : TypeId} {bytes lo c i j : Nat} {S : Nat → Prop} {A : Option Addr} {us : List (Cells k)} (hT : P.underlying t = some (.slice e)) (hI : ElemInfo P e k bytes) (ho : Own (tRaw k kp) e lo S w A c us) (hij : i < j) (hj : j ≤ us.length) :
    ∃ w', (Builtin.append_ #[t, t] ty #[.slice A i c, .slice (cutA A c j k) (us.length - j) (c - j)]).run P w = .ok (.slice A (i + (us.length - j)) c) w' ∧ Own (tRaw k kp) e lo S w' A c (us.take i ++ us.drop j) ∧ Grw w w' (blk A) ∧ w'.heap.size = w.heap.size := by
  have hcap := (ho.sl (S' := Any) (fun _ _ => trivial) (fun _ _ => trivial)).cap
  obtain ⟨g, cur, rfl, hg, hb, hnc, hcm, hcl, ht⟩ := ho.open_ (by omega)
  obtain ⟨inf, z, z1, z2, z3, z4, z5⟩ := hI.ex
  have hld : (Builtin.firstCells k (us.length - j) (.slice (cutA (some ⟨g, 0, none⟩) c j k) (us.length - j) (c - j))).run P w = .ok (flatC (us.drop j)).toArray w := by
    by_cases hc : c = j
    · have h0 : us.drop j = [] := List.drop_of_length_le (by omega)
      have h1 : us.length - j = 0 := by omega
      unfold cutA
      rw [if_pos hc, h0, h1]
      exact run_firstCells_some w k 0 ⟨g, 0, none⟩ _ _ [] (by simp) (fun j v hj => by simp at hj)
    · rw [cutA_some hc]
      refine run_firstCells_some w k _ _ _ _ _ (by rw [flatC_length, List.length_drop]) (fun q v hq => ?_)
      rw [Addr.add_lit, hb.cell]
      rw [← flatC_drop, List.getElem?_drop, ← ht, List.getElem?_take] at hq
      split at hq
      · exact hq
      · cases hq
  have hik : i * k ≤ us.length * k := Nat.mul_le_mul_right _ (by omega)
  have hnk : us.length * k ≤ cur.length := by rw [hcl]; exact Nat.mul_le_mul_right _ hnc
  have hdl : (flatC (us.drop j)).length = (us.length - j) * k := by rw [flatC_length, List.length_drop]
  have hfit : i * k + (flatC (us.drop j)).length ≤ cur.length := by
    rw [hdl, ← Nat.add_mul, hcl]; exact Nat.mul_le_mul_right _ (by omega)
  have hst := run_storeCells_at P g (i * k) e (flatC (us.drop j)) 0 cur.toArray w hb (by simpa using hfit) flatC_one
  simp only [Nat.add_zero] at hst
  refine ⟨_, ?_, ?_, grownBy_setRow w g (cur.take (i * k) ++ flatC (us.drop j) ++ cur.drop (i * k + (flatC (us.drop j)).length)).toArray, by simp [World.setRow]⟩
  · have hle : i + (us.length - j) ≤ c := by omega
    simp [Builtin.append_, run_underlying hT, sizeOf, typeInfo, z1, z3, Builtin.lenOf, hle, hld, Addr.add_lit]
    have e1 : (⟨g, 0, none⟩ : Addr).add (i * k) = ⟨g, i * k, none⟩ := by rw [Addr.add_lit]; simp
    rw [hst]
    simp
  · have hlen : (us.take i ++ us.drop j).length = i + (us.length - j) := by simp only [List.length_append, List.length_take, List.length_drop]; omega
    refine Own.shut_ hg (setRow_heap w g _ _ e _ hb) (by rw [hlen]; omega) hcm (by rw [length_splice_ hfit]; exact hcl) ?_
    rw [hlen, flatC_append, ← flatC_take, ← ht, List.take_take, Nat.min_eq_left hik]
    have h1 : (cur.take (i * k)).length = i * k := by simp only [List.length_take]; omega
    rw [List.take_append_of_le_length (by simp only [List.length_append, h1, hdl, ← Nat.add_mul]; exact Nat.le_refl _), List.take_of_length_le (by simp only [List.length_append, h1, hdl, ← Nat.add_mul]; exact Nat.le_refl _)]
end
section
variable {P : Program} {n : Cx} {l : List (Nat × Value)} {b w : World} {S : Nat → Prop} {rs rest : List Res} {Q : Exit → Act → World → Prop} {K : Act → World → Prop} {ops : Array Oper} {os : List Oper} {ty : TypeId} {pos : String} {aft : Array Edge} {d : Nat}
theorem Rel.len {α : Type} {τ : Ty α} {S : Nat → Prop} {xs : List α} {us : List (Cells τ.k)} (h : Rel τ S w xs us) : us.length = xs.length := h.1
theorem apself {α : Type} {τ : Ty α} {t e : TypeId} {bytes c i j : Nat} {A : Option Addr} {xs : List α} {x y : Operand} (H : Hp b S w rs) (s : Sel rs (rOwn τ e A c xs) rest) (hs : evd n l d x = some (.slice A (xs.take i).length c)) (hy : evl l y = some (.slice (cutA A c j τ.k) (xs.drop j).length (c - j)))
    (hT : P.underlying t = some (.slice e)) (hI : ElemInfo P e τ.k bytes) (hij : i < j) (hj : j ≤ xs.length)
    (k : ∀ w', Hp b S w' (rOwn τ e A c (xs.take i ++ xs.drop j) :: rest) → WL P n ops Q K os ((d, .slice A (xs.take i ++ xs.drop j).length c) :: l) w') : WL P n ops Q K (⟨some d, .call ⟨.builtin .append, #[x, y], #[t, t]⟩, ty, pos, aft, none⟩ :: os) l w := by
  obtain ⟨us, hU, hr⟩ := H.raw s
  have hl := hr.1
  obtain ⟨w', hrun, ho', hg, hz⟩ := run_appendSelf (P := P) (ty := ty) hT hI hU hij (by rw [hl]; exact hj)
  have e1 : (xs.take i).length = i := by simp only [List.length_take]; omega
  have e2 : (xs.drop j).length = us.length - j := by rw [List.length_drop, hl]
  have e3 : (xs.take i ++ xs.drop j).length = i + (us.length - j) := by rw [List.length_append, e1, e2]
  rw [e1] at hs
  rw [e2] at hy
  refine WL.val (v := .slice A (i + (us.length - j)) c) (fun a _ => wanted_none a) rfl (evd_blt hs).1 (R := fun w2 => w2 = w') (fun a ha => ⟨w', ?_, rfl⟩) fun w2 e => ?_
  · unfold execOp
    simp only [resolve, Sem.run_bind, Sem.run_pure, Result.andThen_ok, invoke, builtin, List.map_toArray, List.map_cons, List.map_nil, ha.eval (evd_blt hs).2, ha.eval hy, hrun]
  · rw [e, ← e3]
    exact k w' (H.back (β := Unit) s ho' ((hr.take i).append (hr.drop j)) hg (fun g hg' => .inl hg'))
theorem WL.valn {o : Oper} {v : Value} (hw : ∀ a, Has n l a → Region.wanted o (yielded ops a.tmps) = true) (hdst : o.dst = none) {R : World → Prop}
    (hrun : ∀ a, Has n l a → ∃ w', (execOp a.eval o).run P w = .ok (.value v) w' ∧ R w') (k : ∀ w', R w' → WL P n ops Q K os l w') : WL P n ops Q K (o :: os) l w := by
  intro a ha
  obtain ⟨w', hr, hR⟩ := hrun a ha
  unfold wpK
  rw [if_pos (hw a ha)]
  refine opw_value hr ?_
  rw [hdst]
  exact k w' hR a ha
/-- what lies behind an own row is cleared -/
theorem clrs {α : Type} {τ : Ty α} {t e : TypeId} {bytes c m : Nat} {A : Option Addr} {xs : List α} {x : Operand} (H : Hp b S w rs) (s : Sel rs (rOwn τ e A c xs) rest) (hx : evl l x = some (.slice (cutA A c xs.length τ.k) m (c - xs.length))) (hT : P.underlying t = some (.slice e)) (hz : ElemZero P e τ.k bytes) (hm : xs.length + m ≤ c)
    (k : ∀ w', Hp b S w' (rOwn τ e A c xs :: rest) → WL P n ops Q K os l w') : WL P n ops Q K (⟨none, .call ⟨.builtin .clear, #[x], #[t]⟩, ty, pos, aft, none⟩ :: os) l w := by
  obtain ⟨us, hU, hr⟩ := H.raw s
  have hl := hr.1
  obtain ⟨w', hrun, ho', hg, hz'⟩ := run_clearSpare (P := P) (ty := ty) (m := m) hT hz hU (by rw [hl]; exact hm)
  rw [hl] at hrun
  refine WL.valn (v := .tuple #[]) (fun a _ => wanted_none a) rfl (R := fun w2 => w2 = w') (fun a ha => ⟨w', ?_, rfl⟩) fun w2 e => ?_
  · unfold execOp
    simp only [resolve, Sem.run_bind, Sem.run_pure, Result.andThen_ok, invoke, builtin, List.map_toArray, List.map_cons, List.map_nil, ha.eval hx, hrun]
  · rw [e]
    exact k w' (H.back (β := Unit) s ho' hr hg (fun g hg' => .inl hg'))
theorem Ev.cut3 {k : Nat} {t e : TypeId} {A : Option Addr} {m c lo hi mx : Nat} {kl kh km : IntKind} {zl zh zm : Int} {x yl yh ym : Operand} (hu : P.underlying t = some (.slice e)) (hs : Size P e k) (hx : evl l x = some (.slice A m c)) (hl : evl l yl = some (.int kl zl)) (hh : evl l yh = some (.int kh zh)) (hm : evl l ym = some (.int km zm))
    (h1 : zl = (lo : Int)) (h2 : zh = (hi : Int)) (h3 : zm = (mx : Int)) (h4 : lo ≤ hi) (h5 : hi ≤ mx) (h6 : mx ≤ c) : Ev P n l w (.slice t x (some yl) (some yh) (some ym)) (.slice (if mx = lo then A else A.map (·.add (lo * k))) (hi - lo) (mx - lo)) := fun o a w' ho ha _ => by
  unfold execOp; rw [ho]
  have h7 : (Instr.sliceAt t (.slice A m c) (some (.int kl zl)) (some (.int kh zh)) (some (.int km zm))).run P w' = .ok (.slice (if mx = lo then A else A.map (·.add (lo * k))) (hi - lo) (mx - lo)) w' := by
    rw [run_sliceAt_slice w' t _ _ _ _ (elem_of hu), run_slice_lhm w' t A m c (elem_of hu) kl kh km zl zh zm (by omega) (by omega) (by omega) (by omega), elem_is hu, hs w', h1, h2, h3]
    simp [sliced]
  simp [ha.eval hx, ha.eval hl, ha.eval hh, ha.eval hm, h7]
theorem Ev.cutN {k : Nat} {t e : TypeId} {A : Option Addr} {m c lo hi : Nat} {kl kh : IntKind} {zl zh : Int} {x yl yh : Operand} (hu : P.underlying t = some (.slice e)) (hs : Size P e k) (hx : evl l x = some (.slice A m c)) (hl : evl l yl = some (.int kl zl)) (hh : evl l yh = some (.int kh zh))
    (h1 : zl = (lo : Int)) (h2 : zh = (hi : Int)) (h4 : lo ≤ hi) (h6 : hi ≤ c) : Ev P n l w (.slice t x (some yl) (some yh) none) (.slice (cutA A c lo k) (hi - lo) (c - lo)) := fun o a w' ho ha _ => by
  unfold execOp; rw [ho]
  have h7 : (Instr.sliceAt t (.slice A m c) (some (.int kl zl)) (some (.int kh zh)) none).run P w' = .ok (.slice (cutA A c lo k) (hi - lo) (c - lo)) w' := by
    rw [run_sliceAt_slice w' t _ _ _ _ (elem_of hu), run_slice_lh w' t A m c (elem_of hu) kl kh zl zh (by omega) (by omega) (by omega), elem_is hu, hs w', h1, h2]
    simp [sliced, cutA]
  simp [ha.eval hx, ha.eval hl, ha.eval hh, h7]
theorem Ev.nilCheck {x : Operand} {p : Addr} (hx : evl l x = some (.pointer (some p))) : Ev P n l w (.nilCheck x) (.pointer (some p)) := fun o a w' ho ha _ => by
  unfold execOp; rw [ho]; simp [ha.eval hx]
end

/-! ### a row whose elements hold rows of the call's own -/
/-- rows of the call's own, each apart from the others -/
def rRows {α : Type} (τ : Ty α) (e : TypeId) (L : List (Option Addr × Nat × List α)) : Res where
  W := fun g => ∃ r ∈ L, blk r.1 = some g
  ok := fun S w => (∀ r ∈ L, Own τ e 0 S w r.1 r.2.1 r.2.2) ∧ L.Pairwise fun (p q : Option Addr × Nat × List α) => ∀ g, blk p.1 = some g → blk q.1 ≠ some g
  sub := fun hs h => ⟨fun r hr => (h.1 r hr).low (Nat.le_refl _) hs, h.2⟩
  keep := fun hm h => ⟨fun r hr => (h.1 r hr).keep fun g hg => hm g (hg.imp (fun h => ⟨r, hr, h⟩) id), h.2⟩
/-- rows that may be read -/
def rIns {α : Type} (τ : Ty α) (L : List (Option Addr × Nat × List α)) : Res where
  W := fun _ => False
  ok := fun S w => ∀ r ∈ L, Sl τ S w r.1 r.2.1 r.2.2
  sub := fun hs h => fun r hr => (h r hr).sub hs
  keep := fun hm h => fun r hr => (h r hr).keep fun g hg => hm g (.inr hg)
section
variable {α : Type} {τ : Ty α} {e : TypeId} {b w : World} {S : Nat → Prop} {rs rest rest2 : List Res} {L : List (Option Addr × Nat × List α)}
theorem Hp.rows0 (H : Hp b S w rs) (τ : Ty α) (e : TypeId) : Hp b S w (rRows τ e [] :: rs) :=
  H.new (r := rRows τ e []) (Ext.refl w) (fun g ⟨r, hr, _⟩ => by simp at hr) ⟨fun r hr => by simp at hr, List.Pairwise.nil⟩
/-- two resources become one -/
theorem Hp.join {r1 r2 r : Res} (H : Hp b S w (r1 :: r2 :: rs)) (hW : ∀ g, r.W g ↔ r1.W g ∨ r2.W g) (hok : ∀ {S' : Nat → Prop}, r1.ok S' w → r2.ok S' w → (∀ g, r1.W g → ¬ r2.W g) → r.ok S' w) : Hp b S w (r :: rs) := by
  have h1 := List.pairwise_cons.1 H.dis
  have h2 := List.pairwise_cons.1 h1.2
  have hs : ∀ g, Rd b S (r1 :: r2 :: rs) w g → Rd b S (r :: rs) w g := by
    rintro g (h | ⟨h3, h4, h5⟩)
    · exact .inl h
    · refine .inr ⟨h3, h4, fun q hq => ?_⟩
      rcases List.mem_cons.1 hq with rfl | hq
      · intro h; rcases (hW g).1 h with h | h
        · exact h5 r1 (by simp) h
        · exact h5 r2 (by simp) h
      · exact h5 q (by simp [hq])
  refine ⟨H.ext, fun q hq => ?_, fun q hq g hg => ?_, List.pairwise_cons.2 ⟨fun q hq g hg => ?_, h2.2⟩⟩
  · rcases List.mem_cons.1 hq with rfl | hq
    · exact q.sub hs (hok (H.ok r1 (by simp)) (H.ok r2 (by simp)) (h1.1 r2 (by simp)))
    · exact q.sub hs (H.ok q (by simp [hq]))
  · rcases List.mem_cons.1 hq with rfl | hq
    · rcases (hW g).1 hg with h | h
      · exact H.lo r1 (by simp) g h
      · exact H.lo r2 (by simp) g h
    · exact H.lo q (by simp [hq]) g hg
  · rcases (hW g).1 hg with h | h
    · exact h1.1 q (by simp [hq]) g h
    · exact h2.1 q hq g h
/-- one becomes two -/
theorem Hp.split {r1 r2 r : Res} (H : Hp b S w (r :: rs)) (hW : ∀ g, r.W g ↔ r1.W g ∨ r2.W g) (hok : ∀ {S' : Nat → Prop}, r.ok S' w → r1.ok S' w ∧ r2.ok S' w ∧ ∀ g, r1.W g → ¬ r2.W g) : Hp b S w (r1 :: r2 :: rs) := by
  have h1 := List.pairwise_cons.1 H.dis
  have h0 := hok (H.ok r (by simp))
  have hs : ∀ g, Rd b S (r :: rs) w g → Rd b S (r1 :: r2 :: rs) w g := by
    rintro g (h | ⟨h3, h4, h5⟩)
    · exact .inl h
    · refine .inr ⟨h3, h4, fun q hq => ?_⟩
      rcases List.mem_cons.1 hq with rfl | hq
      · exact fun h => h5 r (by simp) ((hW g).2 (.inl h))
      · rcases List.mem_cons.1 hq with rfl | hq
        · exact fun h => h5 r (by simp) ((hW g).2 (.inr h))
        · exact h5 q (by simp [hq])
  refine ⟨H.ext, fun q hq => ?_, fun q hq g hg => ?_, List.pairwise_cons.2 ⟨fun q hq g hg => ?_, List.pairwise_cons.2 ⟨fun q hq g hg => h1.1 q hq g ((hW g).2 (.inr hg)), h1.2⟩⟩⟩
  · rcases List.mem_cons.1 hq with rfl | hq
    · exact q.sub hs h0.1
    · rcases List.mem_cons.1 hq with rfl | hq
      · exact q.sub hs h0.2.1
      · exact q.sub hs (H.ok q (by simp [hq]))
  · rcases List.mem_cons.1 hq with rfl | hq
    · exact H.lo r (by simp) g ((hW g).2 (.inl hg))
    · rcases List.mem_cons.1 hq with rfl | hq
      · exact H.lo r (by simp) g ((hW g).2 (.inr hg))
      · exact H.lo q (by simp [hq]) g hg
  · rcases List.mem_cons.1 hq with rfl | hq
    · exact h0.2.2 g hg
    · exact h1.1 q hq g ((hW g).2 (.inl hg))
theorem Hp.rowsPush {B : Option Addr} {d : Nat} {xs : List α} (H : Hp b S w rs) (s : Sel rs (rOwn τ e B d xs) rest) (s' : Sel rest (rRows τ e L) rest2) : Hp b S w (rRows τ e (L ++ [(B, d, xs)]) :: rest2) := by
  have H1 : Hp b S w (rOwn τ e B d xs :: rRows τ e L :: rest2) := (H.sel s).perm (s'.perm.cons _)
  refine H1.join (fun g => ?_) (fun {S'} h1 h2 h3 => ?_)
  · constructor
    · rintro ⟨r, hr, hg⟩
      rcases List.mem_append.1 hr with hr | hr
      · exact .inr ⟨r, hr, hg⟩
      · rw [List.mem_singleton.1 hr] at hg; exact .inl hg
    · rintro (h | ⟨r, hr, hg⟩)
      · exact ⟨(B, d, xs), by simp, h⟩
      · exact ⟨r, by simp [hr], hg⟩
  · refine ⟨fun r hr => ?_, List.pairwise_append.2 ⟨h2.2, List.pairwise_singleton _ _, fun p hp q hq g hg hq' => ?_⟩⟩
    · rcases List.mem_append.1 hr with hr | hr
      · exact h2.1 r hr
      · rw [List.mem_singleton.1 hr]; exact h1
    · rw [List.mem_singleton.1 hq] at hq'
      exact h3 g hq' ⟨p, hp, hg⟩
theorem eraseIdx_split {β : Type} {L : List β} {i : Nat} {x : β} (hx : L[i]? = some x) : L = L.take i ++ x :: L.drop (i + 1) ∧ L.eraseIdx i = L.take i ++ L.drop (i + 1) := by
  have hi := lt_of_get hx
  constructor
  · rw [← (List.getElem?_eq_some_iff.1 hx).2, List.getElem_cons_drop, List.take_append_drop]
  · exact List.eraseIdx_eq_take_drop_succ L i
theorem Hp.rowsTake {i : Nat} {B : Option Addr} {d : Nat} {xs : List α} (H : Hp b S w rs) (s : Sel rs (rRows τ e L) rest) (hx : L[i]? = some (B, d, xs)) : Hp b S w (rOwn τ e B d xs :: rRows τ e (L.eraseIdx i) :: rest) := by
  obtain ⟨e1, e2⟩ := eraseIdx_split hx
  refine (H.sel s).split (fun g => ?_) (fun {S'} h => ?_)
  · constructor
    · rintro ⟨r, hr, hg⟩
      rw [e1] at hr
      rcases List.mem_append.1 hr with hr | hr
      · exact .inr ⟨r, by rw [e2]; simp [hr], hg⟩
      · rcases List.mem_cons.1 hr with rfl | hr
        · exact .inl hg
        · exact .inr ⟨r, by rw [e2]; simp [hr], hg⟩
    · rintro (h | ⟨r, hr, hg⟩)
      · exact ⟨(B, d, xs), List.mem_of_getElem? hx, h⟩
      · rw [e2] at hr
        refine ⟨r, ?_, hg⟩
        rw [e1]
        rcases List.mem_append.1 hr with hr | hr <;> simp [hr]
  · have h1 : ∀ r ∈ L.eraseIdx i, r ∈ L := fun r hr => List.mem_of_mem_eraseIdx hr
    have h2 := h.2
    rw [e1] at h2
    obtain ⟨h3, h4, h5⟩ := List.pairwise_append.1 h2
    obtain ⟨h6, h7⟩ := List.pairwise_cons.1 h4
    refine ⟨h.1 _ (List.mem_of_getElem? hx), ⟨fun r hr => h.1 r (h1 r hr), ?_⟩, ?_⟩
    · rw [e2]; exact List.pairwise_append.2 ⟨h3, h7, fun p hp q hq => h5 p hp q (by simp [hq])⟩
    · rintro g hg ⟨r, hr, hg'⟩
      rw [e2] at hr
      rcases List.mem_append.1 hr with hr | hr
      · exact h5 r hr (B, d, xs) (by simp) g hg' hg
      · exact h6 r hr g hg hg'
theorem Hp.rowsPut {i : Nat} {x0 : Option Addr × Nat × List α} {B : Option Addr} {d : Nat} {xs : List α} (H : Hp b S w rs) (hx : L[i]? = some x0) (s : Sel rs (rOwn τ e B d xs) rest) (s' : Sel rest (rRows τ e (L.eraseIdx i)) rest2) : Hp b S w (rRows τ e (L.set i (B, d, xs)) :: rest2) := by
  have H1 : Hp b S w (rOwn τ e B d xs :: rRows τ e (L.eraseIdx i) :: rest2) := (H.sel s).perm (s'.perm.cons _)
  obtain ⟨e1, e2⟩ := eraseIdx_split hx
  have hi := lt_of_get hx
  have e3 : L.set i (B, d, xs) = L.take i ++ (B, d, xs) :: L.drop (i + 1) := by rw [List.set_eq_take_append_cons_drop, if_pos hi]
  refine H1.join (fun g => ?_) (fun {S'} h1 h2 h3 => ?_)
  · constructor
    · rintro ⟨r, hr, hg⟩
      rw [e3] at hr
      rcases List.mem_append.1 hr with hr | hr
      · exact .inr ⟨r, by rw [e2]; simp [hr], hg⟩
      · rcases List.mem_cons.1 hr with rfl | hr
        · exact .inl hg
        · exact .inr ⟨r, by rw [e2]; simp [hr], hg⟩
    · rintro (h | ⟨r, hr, hg⟩)
      · exact ⟨(B, d, xs), by rw [e3]; simp, h⟩
      · rw [e2] at hr
        refine ⟨r, ?_, hg⟩
        rw [e3]
        rcases List.mem_append.1 hr with hr | hr <;> simp [hr]
  · rw [e2] at h2 h3
    obtain ⟨h4, h5, h6⟩ := List.pairwise_append.1 h2.2
    refine ⟨fun r hr => ?_, ?_⟩
    · rw [e3] at hr
      rcases List.mem_append.1 hr with hr | hr
      · exact h2.1 r (by simp [hr])
      · rcases List.mem_cons.1 hr with rfl | hr
        · exact h1
        · exact h2.1 r (by simp [hr])
    · rw [e3]
      refine List.pairwise_append.2 ⟨h4, List.pairwise_cons.2 ⟨fun q hq g hg hg' => h3 g hg ⟨q, by simp [hq], hg'⟩, h5⟩, fun p hp q hq g hg hg' => ?_⟩
      rcases List.mem_cons.1 hq with rfl | hq
      · exact h3 g hg' ⟨p, by simp [hp], hg⟩
      · exact h6 p hp q hq g hg hg'
theorem Hp.inAt {B : Option Addr} {d : Nat} {xs : List α} (H : Hp b S w rs) (s : Sel rs (rIns τ L) rest) (hx : (B, d, xs) ∈ L) : Sl τ (Rd b S rs w) w B d xs := H.ok (rIns τ L) (s.perm.mem_iff.2 (by simp)) _ hx
/-- rows of the call's own are from now on to be read alone -/
theorem Hp.rowsFz (H : Hp b S w rs) (s : Sel rs (rRows τ e L) rest) : Hp b S w (rIns τ L :: rest) := by
  have H1 := H.sel s
  have hd := List.pairwise_cons.1 H1.dis
  have hs : ∀ g, Rd b S (rRows τ e L :: rest) w g → Rd b S (rIns τ L :: rest) w g := by
    rintro g (h | ⟨h3, h4, h5⟩)
    · exact .inl h
    · refine .inr ⟨h3, h4, fun q hq => ?_⟩
      rcases List.mem_cons.1 hq with rfl | hq
      · exact fun h => h
      · exact h5 q (by simp [hq])
  refine ⟨H.ext, fun q hq => ?_, fun q hq g hg => ?_, List.pairwise_cons.2 ⟨fun q hq g hg => hg.elim, hd.2⟩⟩
  · rcases List.mem_cons.1 hq with rfl | hq
    · intro r hr
      have h6 : Own τ e 0 (Rd b S (rRows τ e L :: rest) w) w r.1 r.2.1 r.2.2 := (H1.ok (rRows τ e L) (by simp)).1 r hr
      refine h6.slb (fun g hg => ?_) hs
      have h8 := H1.lo (rRows τ e L) (by simp) g ⟨r, hr, hg⟩
      refine .inr ⟨h8.1, h8.2, fun q hq => ?_⟩
      rcases List.mem_cons.1 hq with rfl | hq
      · exact fun h => h
      · exact hd.1 q hq g ⟨r, hr, hg⟩
    · exact q.sub hs (H1.ok q (by simp [hq]))
  · rcases List.mem_cons.1 hq with rfl | hq
    · exact hg.elim
    · exact H1.lo q (by simp [hq]) g hg
/-- the elements of a row, their addresses beside them -/
theorem Hp.recast {β γ : Type} {σ : Ty β} {ρ : Ty γ} {A : Option Addr} {c : Nat} {xs : List β} {ys : List γ} (H : Hp b S w rs) (s : Sel rs (rOwn σ e A c xs) rest) (hk : σ.k = ρ.k) (hl : ys.length = xs.length)
    (hR : ∀ (i : Nat) (x : β) (y : γ) (cs : List Value), xs[i]? = some x → ys[i]? = some y → σ.R (Rd b S rs w) w x cs → ρ.R (Rd b S rs w) w y cs) : Hp b S w (rOwn ρ e A c ys :: rest) := by
  have hsub : ∀ g, Rd b S rs w g → Rd b S (rOwn σ e A c xs :: rest) w g := Rd.perm s.perm
  refine (H.sel s).put (r' := rOwn ρ e A c ys) ⟨rfl, rfl, rfl, Nat.le_refl _, fun _ _ _ => rfl, Nat.le_refl _⟩ (fun g hg => .inl hg) ?_
  obtain ⟨css, h1, h2, h3⟩ := H.ow s
  refine Own.low (lo := b.heap.size) ⟨css, by rw [h1, hl], fun i y hy => ?_, ?_⟩ (Nat.zero_le _) hsub
  · obtain ⟨x, hx⟩ := get_some (xs := xs) (i := i) (by rw [← hl]; exact lt_of_get hy)
    obtain ⟨cs, h4, h5⟩ := h2 i x hx
    exact ⟨cs, h4, hR i x y cs hx hy h5⟩
  · rw [hk, ← hl] at h3
    exact h3
end
end Go.Proofs.YtlnjmkmhmbijmaaGreat
