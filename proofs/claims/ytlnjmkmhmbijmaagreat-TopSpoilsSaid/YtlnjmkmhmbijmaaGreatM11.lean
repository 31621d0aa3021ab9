/- Looking into maps that the call has made: a set; counts by key. Numbers as floats, of any size. -/
import Derived.Test.YtlnjmkmhmbijmaaGreatM10
set_option linter.all false
namespace Go.Proofs.YtlnjmkmhmbijmaaGreat
open Go.RowKit

section
variable {P : Program} {n : Cx} {l : List (Nat × Value)} {b w : World} {S : Nat → Prop} {rs rest : List Res} {Q : Exit → Act → World → Prop} {K : Act → World → Prop} {ops : Array Oper} {os : List Oper} {ty : TypeId} {pos : String} {aft : Array Edge} {d : Nat}
theorem Hp.was {g : Nat} {o : Obj} (H : Hp b S w rs) (h : b.heap[g]? = some o) : w.heap[g]? = some o := (H.ext.block g (Array.getElem?_eq_some_iff.1 h).1).trans h
theorem setE_none {s : List Int} {z : Int} (hno : ∀ x ∈ (setE s).toList, x.key ≠ .int .i64 z) : s.contains z = false := by
  rw [Bool.eq_false_iff, ne_eq, List.contains_iff_mem]
  intro hmem
  obtain ⟨j, hj⟩ := List.getElem?_of_mem hmem
  have h2 : (setE s).toList[j]? = some ⟨.int .i64 z, .bool true, j⟩ := by simp [setE, hj]
  exact hno _ (List.mem_of_getElem? h2) rfl
theorem run_lookS {t kt et : TypeId} {z : Int} {g : Nat} {s : List Int} (hm : P.underlying t = some (.map kt et)) (hk : P.underlying kt = some (.int .i64)) (hz : ∀ w, (zeroValue et).run P w = .ok (.bool false) w) (hb : w.heap[g]? = some (.map (setE s) s.length)) :
    (Instr.lookup t (.map (some g)) (.int .i64 z) false).run P w = .ok (.bool (s.contains z)) w := by
  have hkz : MapKept.IsKey (.int .i64) (.int .i64 z) := by simp [MapKept.IsKey]
  have h1 : ∀ e, (Instr.checkKey e 10000 kt (.int .i64 z)).run P w = .ok () w := fun e => MapKept.run_checkKey (n := 9999) hk hkz e
  rcases MapKept.findNow_spec hkz (setE s).toList 0 (setE_keys s) with ⟨hf, hno⟩ | ⟨j, e, hf, hj, he⟩
  · have h2 := MapKept.run_findKey (P := P) (w := w) hk hf
    unfold Instr.lookup
    simp only [Sem.run_bind, run_underlying hm, Result.andThen_ok, MapKept.run_getObj_map hb, Sem.run_pure, h1, h2, hz]
    rw [setE_none hno]; rfl
  · obtain ⟨y, hy, rfl⟩ := setE_get hj
    have hyz : y = z := by injection he
    subst hyz
    have h2 := MapKept.run_findKey (P := P) (w := w) hk hf
    unfold Instr.lookup
    simp only [Sem.run_bind, run_underlying hm, Result.andThen_ok, MapKept.run_getObj_map hb, Sem.run_pure, h1, h2]
    rw [show s.contains y = true from List.contains_iff_mem.2 (List.mem_of_getElem? hy)]; rfl
theorem Ev.lookS {t kt et : TypeId} {z : Int} {g : Nat} {s : List Int} {m ky : Operand} (hb : w.heap[g]? = some (.map (setE s) s.length)) (hm : P.underlying t = some (.map kt et)) (hk : P.underlying kt = some (.int .i64)) (hz : ∀ w, (zeroValue et).run P w = .ok (.bool false) w) (hx : evl l m = some (.map (some g))) (hy : evl l ky = some (.int .i64 z)) :
    Ev P n l w (.lookup t m ky false) (.bool (s.contains z)) := fun o a w' ho ha ex => by
  have hb' : w'.heap[g]? = some (.map (setE s) s.length) := (ex.block g (Array.getElem?_eq_some_iff.1 hb).1).trans hb
  unfold execOp; rw [ho]
  simp only [ha.eval hx, ha.eval hy]
  simp only [Sem.run_bind, run_lookS (P := P) (s := s) (z := z) hm hk hz hb', Result.andThen_ok, Sem.run_pure]
/-! ### counts by key -/
def cntE (s : List (Int × Int)) : Array MapEntry := (s.zipIdx.map fun p => ⟨.int .i64 p.1.1, .int .i64 p.1.2, p.2⟩).toArray
def getC (s : List (Int × Int)) (z : Int) : Int := match s.find? (fun p => decide (p.1 = z)) with | some p => p.2 | none => 0
def putC (s : List (Int × Int)) (z v : Int) : List (Int × Int) := if s.any (fun p => decide (p.1 = z)) then s.map (fun p => if p.1 = z then (z, v) else p) else s ++ [(z, v)]
abbrev rCnt (g : Nat) (s : List (Int × Int)) : Res := rObj g (.map (cntE s) s.length)
theorem cntE_get {s : List (Int × Int)} {j : Nat} {e : MapEntry} (h : (cntE s).toList[j]? = some e) : ∃ p, s[j]? = some p ∧ e = ⟨.int .i64 p.1, .int .i64 p.2, j⟩ := by
  simp only [cntE, List.getElem?_map, List.getElem?_zipIdx, Nat.zero_add] at h
  cases hs : s[j]? with
  | none => simp [hs] at h
  | some p => simp [hs] at h; exact ⟨p, rfl, h.symm⟩
theorem cntE_keys (s : List (Int × Int)) : ∀ x ∈ (cntE s).toList, MapKept.IsKey (.int .i64) x.key := by
  intro x hx
  obtain ⟨j, hj⟩ := List.getElem?_of_mem hx
  obtain ⟨z, _, rfl⟩ := cntE_get hj
  simp [MapKept.IsKey]
theorem cntE_none {s : List (Int × Int)} {z : Int} (hno : ∀ x ∈ (cntE s).toList, x.key ≠ .int .i64 z) : ∀ p ∈ s, p.1 ≠ z := by
  intro p hp e
  obtain ⟨j, hj⟩ := List.getElem?_of_mem hp
  have h2 : (cntE s).toList[j]? = some ⟨.int .i64 p.1, .int .i64 p.2, j⟩ := by simp [cntE, hj]
  exact hno _ (List.mem_of_getElem? h2) (by rw [e])
/-- each key once -/
def KeyOnce (s : List (Int × Int)) : Prop := s.Pairwise fun p q => p.1 ≠ q.1
theorem getC_at {s : List (Int × Int)} (hs : KeyOnce s) {p : Int × Int} (hp : p ∈ s) : getC s p.1 = p.2 := by
  induction s with
  | nil => simp at hp
  | cons q s ih =>
    have h1 := List.pairwise_cons.1 hs
    unfold getC
    by_cases e : q.1 = p.1
    · rw [List.find?_cons_of_pos (by simpa using e)]
      rcases List.mem_cons.1 hp with h | h
      · rw [h]
      · exact absurd e (h1.1 p h)
    · rw [List.find?_cons_of_neg (by simpa using e)]
      exact ih h1.2 ((List.mem_cons.1 hp).resolve_left fun h => e (h ▸ rfl))
theorem getC_no {s : List (Int × Int)} {z : Int} (h : ∀ p ∈ s, p.1 ≠ z) : getC s z = 0 := by
  unfold getC; rw [List.find?_eq_none.2 (fun p hp => by simpa using h p hp)]
theorem run_lookC {t kt et : TypeId} {z : Int} {g : Nat} {s : List (Int × Int)} (hs : KeyOnce s) (hm : P.underlying t = some (.map kt et)) (hk : P.underlying kt = some (.int .i64)) (hz : ∀ w, (zeroValue et).run P w = .ok (.int .i64 0) w) (hb : w.heap[g]? = some (.map (cntE s) s.length)) :
    (Instr.lookup t (.map (some g)) (.int .i64 z) false).run P w = .ok (.int .i64 (getC s z)) w := by
  have hkz : MapKept.IsKey (.int .i64) (.int .i64 z) := by simp [MapKept.IsKey]
  have h1 : ∀ e, (Instr.checkKey e 10000 kt (.int .i64 z)).run P w = .ok () w := fun e => MapKept.run_checkKey (n := 9999) hk hkz e
  rcases MapKept.findNow_spec hkz (cntE s).toList 0 (cntE_keys s) with ⟨hf, hno⟩ | ⟨j, e, hf, hj, he⟩
  · have h2 := MapKept.run_findKey (P := P) (w := w) hk hf
    unfold Instr.lookup
    simp only [Sem.run_bind, run_underlying hm, Result.andThen_ok, MapKept.run_getObj_map hb, Sem.run_pure, h1, h2, hz]
    rw [getC_no (cntE_none hno)]; rfl
  · obtain ⟨p, hp, rfl⟩ := cntE_get hj
    have hyz : p.1 = z := by injection he
    subst hyz
    have h2 := MapKept.run_findKey (P := P) (w := w) hk hf
    unfold Instr.lookup
    simp only [Sem.run_bind, run_underlying hm, Result.andThen_ok, MapKept.run_getObj_map hb, Sem.run_pure, h1, h2]
    rw [getC_at hs (List.mem_of_getElem? hp)]; rfl
theorem Ev.lookC {t kt et : TypeId} {z : Int} {g : Nat} {s : List (Int × Int)} {m ky : Operand} (hb : w.heap[g]? = some (.map (cntE s) s.length)) (hs : KeyOnce s) (hm : P.underlying t = some (.map kt et)) (hk : P.underlying kt = some (.int .i64)) (hz : ∀ w, (zeroValue et).run P w = .ok (.int .i64 0) w) (hx : evl l m = some (.map (some g))) (hy : evl l ky = some (.int .i64 z)) :
    Ev P n l w (.lookup t m ky false) (.int .i64 (getC s z)) := fun o a w' ho ha ex => by
  have hb' : w'.heap[g]? = some (.map (cntE s) s.length) := (ex.block g (Array.getElem?_eq_some_iff.1 hb).1).trans hb
  unfold execOp; rw [ho]
  simp only [ha.eval hx, ha.eval hy]
  simp only [Sem.run_bind, run_lookC (P := P) (s := s) (z := z) hs hm hk hz hb', Result.andThen_ok, Sem.run_pure]
theorem cntE_push (s : List (Int × Int)) (z v : Int) : (cntE s).push ⟨.int .i64 z, .int .i64 v, s.length⟩ = cntE (s ++ [(z, v)]) := by
  simp [cntE, List.zipIdx_append]
theorem putC_len (s : List (Int × Int)) (z v : Int) : (putC s z v).length = if s.any (fun p => decide (p.1 = z)) then s.length else s.length + 1 := by
  unfold putC; split <;> simp
theorem putC_once {s : List (Int × Int)} (hs : KeyOnce s) (z v : Int) : KeyOnce (putC s z v) := by
  unfold putC; split
  · refine List.pairwise_map.2 (hs.imp fun {p q} h => ?_)
    split <;> split <;> simp_all
  · rename_i h
    refine List.pairwise_append.2 ⟨hs, List.pairwise_singleton _ _, fun p hp q hq e => h ?_⟩
    rw [List.mem_singleton.1 hq] at e
    exact List.any_eq_true.2 ⟨p, hp, by simpa using e⟩
theorem cntE_modify {s : List (Int × Int)} (hs : KeyOnce s) {j : Nat} {p : Int × Int} (h : s[j]? = some p) (v : Int) : (cntE s).modify j (fun e => { e with key := .int .i64 p.1, val := .int .i64 v }) = cntE (putC s p.1 v) := by
  have ha : putC s p.1 v = s.map (fun q => if q.1 = p.1 then (p.1, v) else q) := if_pos (List.any_eq_true.2 ⟨p, List.mem_of_getElem? h, by simp⟩)
  rw [ha]
  apply Array.ext_getElem?
  intro i
  rw [Array.getElem?_modify]
  have hE : ∀ (t : List (Int × Int)) (k : Nat), (cntE t)[k]? = (t[k]?).map fun q => ⟨.int .i64 q.1, .int .i64 q.2, k⟩ := fun t k => by
    rw [← Array.getElem?_toList]; simp only [cntE, List.getElem?_map, List.getElem?_zipIdx, Nat.zero_add]
    cases t[k]? <;> rfl
  rw [hE, hE, List.getElem?_map]
  by_cases hij : j = i
  · subst hij
    rw [if_pos rfl, h]; simp
  · rw [if_neg hij]
    cases hi : s[i]? with
    | none => rfl
    | some q =>
      simp only [Option.map_some]
      have hne : q.1 ≠ p.1 := fun e => by
        have hlj := (List.getElem?_eq_some_iff.1 h).1
        have hli := (List.getElem?_eq_some_iff.1 hi).1
        have h1 := List.pairwise_iff_getElem.1 hs
        rcases Nat.lt_or_gt_of_ne hij with h3 | h3
        · have := h1 j i hlj hli h3
          rw [(List.getElem?_eq_some_iff.1 h).2, (List.getElem?_eq_some_iff.1 hi).2] at this; exact this e.symm
        · have := h1 i j hli hlj h3
          rw [(List.getElem?_eq_some_iff.1 h).2, (List.getElem?_eq_some_iff.1 hi).2] at this; exact this e
      rw [if_neg hne]
theorem run_setC {t kt et : TypeId} {z v : Int} {g : Nat} {s : List (Int × Int)} (hs : KeyOnce s) (hm : P.underlying t = some (.map kt et)) (hk : P.underlying kt = some (.int .i64)) (hb : w.heap[g]? = some (.map (cntE s) s.length)) :
    (Instr.mapUpdate t (.map (some g)) (.int .i64 z) (.int .i64 v)).run P w = .ok () (w.putObj g (.map (cntE (putC s z v)) (putC s z v).length)) := by
  have hz : MapKept.IsKey (.int .i64) (.int .i64 z) := by simp [MapKept.IsKey]
  have h1 : (Instr.checkKey false 10000 kt (.int .i64 z)).run P w = .ok () w := MapKept.run_checkKey (n := 9999) hk hz false
  rcases MapKept.findNow_spec hz (cntE s).toList 0 (cntE_keys s) with ⟨hf, hno⟩ | ⟨j, e, hf, hj, he⟩
  · have hno' := cntE_none hno
    have ha : putC s z v = s ++ [(z, v)] := if_neg (by rw [List.any_eq_true]; rintro ⟨p, hp, h⟩; exact hno' p hp (by simpa using h))
    have h2 := MapKept.run_findKey (P := P) (w := w) hk hf
    unfold Instr.mapUpdate
    simp only [Sem.run_bind, run_underlying hm, Result.andThen_ok, MapKept.run_getObj_map hb, h1, h2, MapKept.run_setObj_map _ hb]
    rw [ha, ← cntE_push, List.length_append]
    rfl
  · obtain ⟨p, hp, rfl⟩ := cntE_get hj
    have hyz : p.1 = z := by injection he
    subst hyz
    have ha : (putC s p.1 v).length = s.length := by rw [putC_len, if_pos (List.any_eq_true.2 ⟨p, List.mem_of_getElem? hp, by simp⟩)]
    have h2 := MapKept.run_findKey (P := P) (w := w) hk hf
    have h3 : (((cntE s)[0 + j]?).map (·.key)).getD (.int .i64 p.1) = .int .i64 p.1 := by
      rw [← Array.getElem?_toList, Nat.zero_add, hj]; rfl
    unfold Instr.mapUpdate
    simp only [Sem.run_bind, run_underlying hm, Result.andThen_ok, MapKept.run_getObj_map hb, h1, h2, h3, MapKept.run_keyThatStays hz, MapKept.run_setObj_map _ hb]
    rw [ha, Nat.zero_add, cntE_modify hs hp]
    rfl
theorem setC {t kt et : TypeId} {m ky vy : Operand} {z v : Int} {g : Nat} {s : List (Int × Int)} (hs : KeyOnce s) (H : Hp b S w rs) (sl : Sel rs (rCnt g s) rest) (hx : evl l m = some (.map (some g))) (hkey : evl l ky = some (.int .i64 z)) (hv : evl l vy = some (.int .i64 v))
    (hm : P.underlying t = some (.map kt et)) (hk : P.underlying kt = some (.int .i64))
    (k : ∀ w', Hp b S w' (rCnt g (putC s z v) :: rest) → WL P n ops Q K os l w') : WL P n ops Q K (⟨none, .mapUpdate t m ky vy, ty, pos, aft, none⟩ :: os) l w :=
  WL.unit (fun a _ => wanted_none a) rfl (R := fun w' => w' = w.putObj g (.map (cntE (putC s z v)) (putC s z v).length)) (fun a ha => ⟨_, by
    unfold execOp; simp [ha.eval hx, ha.eval hkey, ha.eval hv, run_setC hs hm hk (H.obj sl)], rfl⟩) fun w' e => by
    subst e; exact k _ (H.putObj sl _)
theorem mkc {t : TypeId} (H : Hp b S w rs) (hd : Nat.blt d n.size = true) (k : ∀ g w', Hp b S w' (rCnt g [] :: rs) → WL P n ops Q K os ((d, .map (some g)) :: l) w') : WL P n ops Q K (⟨some d, .makeMap t none, ty, pos, aft, none⟩ :: os) l w := mkm H hd k
end
/-! ### numbers of any size as floats -/
abbrev fz (z : Int) : Nat := FloatKind.f64.nearest z
theorem c01 : FloatKind.f64.format.add 0 4607182418800017408 = some (fb 1) := by decide +kernel
theorem fz_nat (m : Nat) : fz (m : Int) = fb m := rfl
theorem read_write_num (neg : Bool) (mag : Nat) (place : Int) : (Ieee.double.read (Ieee.double.nearest neg mag place)).isNaN = false := by
  have key : ∀ (s : Bool) (r : Nat), r ≤ Ieee.double.infRung → (Ieee.double.read (Ieee.double.word s r)).isNaN = false := by
    intro s r hr
    have hI : Ieee.double.infRung < Ieee.double.signWeight := by decide
    have hm : Ieee.double.word s r % Ieee.double.signWeight = r := by
      unfold Ieee.Format.word
      cases s
      · show r % Ieee.double.signWeight = r
        exact Nat.mod_eq_of_lt (by omega)
      · show (Ieee.double.signWeight + r) % Ieee.double.signWeight = r
        rw [Nat.add_mod_left]; exact Nat.mod_eq_of_lt (by omega)
    unfold Ieee.Format.read
    simp only [hm]
    split
    · rfl
    · split
      · rfl
      · split
        · rfl
        · omega
  unfold Ieee.Format.nearest
  split
  · exact key _ _ (Nat.zero_le _)
  · exact key _ _ (Nat.min_le_right _ _)
theorem fz_add0 (z : Int) : ∃ e, FloatKind.f64.format.add (fz z) 0 = some e := by
  have h := read_write_num (decide (z < 0)) z.natAbs 0
  have h0 : Ieee.double.read 0 = .number false 0 Ieee.double.leastPlace := by decide
  show ∃ e, ((Ieee.double.read (fz z)).sum (Ieee.double.read 0)).map Ieee.double.write = some e
  have he : fz z = Ieee.double.nearest (decide (z < 0)) z.natAbs 0 := rfl
  rw [he, h0]
  cases hr : Ieee.double.read (Ieee.double.nearest (decide (z < 0)) z.natAbs 0) with
  | number s m i => exact ⟨_, rfl⟩
  | infinity s => exact ⟨_, rfl⟩
  | nan s f => rw [hr] at h; cases h
/-- the imaginary part behind one more real one, or none -/
def wIm (o : Bool) (z : Int) : Nat := if o = true then (FloatKind.f64.format.add (fz z) 0).getD 0 else fz z
theorem wIm_add (z : Int) : FloatKind.f64.format.add (fz z) 0 = some (wIm true z) := by
  obtain ⟨e, h⟩ := fz_add0 z
  rw [h]; show some e = some _; unfold wIm; rw [if_pos rfl, h]; rfl
theorem wIm_ok (o : Bool) {m : Nat} (h : m < 130) : wIm o (m : Int) = fb m := by
  unfold wIm; split
  · rw [fz_nat, fb_add0 m h]; rfl
  · rfl
theorem fb_ne : ∀ n, n < 70 → ∀ m, m < 70 → ((FloatKind.f64.format.order (fb n) (fb m) == some .eq) = decide (n = m)) := by decide +kernel
theorem fb_lt : ∀ n, n < 70 → ∀ m, m < 70 → ((FloatKind.f64.format.order (fb n) (fb m) == some .lt) = decide (n < m)) := by decide +kernel
section
variable {P : Program} {n : Cx} {l : List (Nat × Value)} {w : World} {t ty : TypeId} {x y : Operand}
theorem Ev.fneq {a b : Nat} (ha : a < 70) (hb : b < 70) (hx : evl l x = some (.float .f64 (fb a))) (hy : evl l y = some (.float .f64 (fb b))) : Ev P n l w (.binOp .neq t x y ty) (.bool (!decide (a = b))) :=
  Ev.binop hx hy (eqGuard_at_float ..) fun w => by
    have := fb_ne a ha b hb
    simp [binOp, Op.floatCmp, bne, this]
theorem Ev.flss {a b : Nat} (ha : a < 70) (hb : b < 70) (hx : evl l x = some (.float .f64 (fb a))) (hy : evl l y = some (.float .f64 (fb b))) : Ev P n l w (.binOp .lss t x y ty) (.bool (decide (a < b))) :=
  Ev.binop hx hy (eqGuard_at_float ..) fun w => by
    have := fb_lt a ha b hb
    simp [binOp, Op.floatCmp, this]
theorem Ev.itofz {d : TypeId} {k : IntKind} {z : Int} (hs : ∃ k, P.underlying t = some k) (hd : P.underlying d = some (.float .f64)) (hx : evl l x = some (.int k z)) : Ev P n l w (.convert t d x) (.float .f64 (fz z)) := fun o ac w' ho ha _ => by
  unfold execOp; rw [ho]
  obtain ⟨k, hk⟩ := hs
  simp [ha.eval hx, convert, run_underlying hk, run_underlying hd, Conv.intToFloat]
theorem Ev.mkcx {a b : Nat} {ts : Array TypeId} (hx : evl l x = some (.float .f64 a)) (hy : evl l y = some (.float .f64 b)) : Ev P n l w (.call ⟨.builtin .complex, #[x, y], ts⟩) (.complex .f64 a b) := fun o ac w' ho ha _ => by
  unfold execOp; rw [ho]
  simp only [resolve, Sem.run_bind, Sem.run_pure, Result.andThen_ok, invoke, builtin, List.map_toArray, List.map_cons, List.map_nil, ha.eval hx, ha.eval hy]
  rfl
end
end Go.Proofs.YtlnjmkmhmbijmaaGreat
