/- A map from ints to true that the call has made: a set. What a list holds after a filter in place. -/
import Derived.Test.YtlnjmkmhmbijmaaGreatM8
import Derived.Test.YtlnjmkmhmbijmaaGreatPl1
set_option linter.all false
namespace Go.Proofs.YtlnjmkmhmbijmaaGreat
open Go.RowKit

def setE (s : List Int) : Array MapEntry := (s.zipIdx.map fun p => ⟨.int .i64 p.1, .bool true, p.2⟩).toArray
def addS (s : List Int) (z : Int) : List Int := if s.contains z then s else s ++ [z]
theorem setE_size (s : List Int) : (setE s).size = s.length := by simp [setE]
theorem setE_push (s : List Int) (z : Int) : (setE s).push ⟨.int .i64 z, .bool true, s.length⟩ = setE (s ++ [z]) := by
  simp [setE, List.zipIdx_append]
theorem setE_get {s : List Int} {j : Nat} {e : MapEntry} (h : (setE s).toList[j]? = some e) : ∃ z, s[j]? = some z ∧ e = ⟨.int .i64 z, .bool true, j⟩ := by
  simp only [setE, List.getElem?_map, List.getElem?_zipIdx, Nat.zero_add] at h
  cases hs : s[j]? with
  | none => simp [hs] at h
  | some z => simp [hs] at h; exact ⟨z, rfl, h.symm⟩
theorem setE_modify {s : List Int} {j : Nat} {z : Int} (h : s[j]? = some z) : (setE s).modify j (fun e => { e with key := .int .i64 z, val := .bool true }) = setE s := by
  apply Array.ext_getElem?
  intro i
  rw [Array.getElem?_modify]
  by_cases hij : j = i
  · subst hij
    rw [if_pos rfl]
    have h1 : (setE s)[j]? = some ⟨.int .i64 z, .bool true, j⟩ := by
      rw [← Array.getElem?_toList]; simp [setE, h]
    rw [h1]; rfl
  · rw [if_neg hij]
theorem setE_keys (s : List Int) : ∀ x ∈ (setE s).toList, MapKept.IsKey (.int .i64) x.key := by
  intro x hx
  obtain ⟨j, hj⟩ := List.getElem?_of_mem hx
  obtain ⟨z, _, rfl⟩ := setE_get hj
  simp [MapKept.IsKey]
section
variable {P : Program} {n : Cx} {l : List (Nat × Value)} {b w : World} {S : Nat → Prop} {rs rest : List Res} {Q : Exit → Act → World → Prop} {K : Act → World → Prop} {ops : Array Oper} {os : List Oper} {ty : TypeId} {pos : String} {aft : Array Edge} {d : Nat}
theorem unwanted {op : Op} {dd : Option Nat} {j : Nat} {want : Bool} {v : Value} (hg : guardOf ops l j = some v) (hv : unlike want v = true) (a : Act) (ha : Has n l a) :
    Region.wanted ⟨dd, op, ty, pos, aft, some (j, want)⟩ (yielded ops a.tmps) = false := by
  show (yielded ops a.tmps j == some want) = false
  rw [yielded_of ha hg]
  cases v <;> simp [unlike] at hv ⊢
  cases want <;> simp_all
/-- one step's check: who comes up next is free, may come up, and what is listed behind it -/
def tkc (ops : Array Oper) (listed listed' : Array Bool) (i : Nat) : Bool :=
  Region.free .any ops listed i && ((!listed.getD i true && ((ops[i]?).map fun o => o.after.all fun e => !Region.binds .any e || listed.getD e.on false).getD false) && (listed.setIfInBounds i true).toList == listed'.toList)
theorem tkc_ok {listed listed' : Array Bool} {i : Nat} (h : tkc ops listed listed' i = true) : Region.free .any ops listed i = true ∧ (Region.ready .any ops listed).contains i = true ∧ listed.setIfInBounds i true = listed' := by
  simp only [tkc, Bool.and_eq_true, beq_iff_eq] at h
  refine ⟨h.1, ?_, Array.toList_inj.1 h.2.2⟩
  rw [List.contains_iff_mem]
  unfold Region.ready
  refine List.mem_filter.2 ⟨?_, by simpa only [Bool.and_eq_true] using h.2.1⟩
  rw [List.mem_range]
  have h1 := h.2.1.2
  cases ho : ops[i]? with
  | none => rw [ho] at h1; simp at h1
  | some o => exact (Array.getElem?_eq_some_iff.1 ho).1
theorem WH.ns {Z : World → Prop} {fuel : Nat} {listed : Array Bool} (hs : Region.noSelect ops = true) (k : Region.noSelect ops = true → WH P n ops K Z fuel listed l w) : WH P n ops K Z fuel listed l w := k hs
/-- in a region that draws: an operation that only reads is taken first -/
theorem WH.tn {rk : List Res} {fuel : Nat} {listed : Array Bool} (i : Nat) (listed' : Array Bool) {op : Op} {d : Nat} {v : Value} (hs : Region.noSelect ops = true) (hi : ops[i]? = some ⟨some d, op, ty, pos, aft, none⟩) (hf : tkc ops listed listed' i = true)
    (he : ∀ w', Hp b S w' rk → Ev P n l w' op v) (hd : Nat.blt d n.size = true) (hw : Hp b S w rk) (k : WH P n ops K (fun w' => Hp b S w' rk) fuel listed' ((d, v) :: l) w) :
    WH P n ops K (fun w' => Hp b S w' rk) (fuel + 1) listed l w := WH.tk i hi hs (tkc_ok hf).1 (tkc_ok hf).2.1 he hd hw ((tkc_ok hf).2.2 ▸ k)
theorem WH.tng {rk : List Res} {fuel : Nat} {listed : Array Bool} (i : Nat) (listed' : Array Bool) {op : Op} {d j : Nat} {want : Bool} {v : Value} (hs : Region.noSelect ops = true) (hi : ops[i]? = some ⟨some d, op, ty, pos, aft, some (j, want)⟩) (hg : guardOf ops l j = some (.bool want)) (hf : tkc ops listed listed' i = true)
    (he : ∀ w', Hp b S w' rk → Ev P n l w' op v) (hd : Nat.blt d n.size = true) (hw : Hp b S w rk) (k : WH P n ops K (fun w' => Hp b S w' rk) fuel listed' ((d, v) :: l) w) :
    WH P n ops K (fun w' => Hp b S w' rk) (fuel + 1) listed l w := WH.tkg i hi hg hs (tkc_ok hf).1 (tkc_ok hf).2.1 he hd hw ((tkc_ok hf).2.2 ▸ k)
/-- in a region that draws: an operation that is passed over is taken first -/
theorem WH.tnp {rk : List Res} {fuel : Nat} {listed : Array Bool} (i : Nat) (listed' : Array Bool) {op : Op} {d j : Nat} {want : Bool} {u : Value} (hs : Region.noSelect ops = true) (hi : ops[i]? = some ⟨some d, op, ty, pos, aft, some (j, want)⟩) (hg : guardOf ops l j = some u) (hv : unlike want u = true) (hf : tkc ops listed listed' i = true)
    (hd : Nat.blt d n.size = true) (hw : Hp b S w rk) (k : WH P n ops K (fun w' => Hp b S w' rk) fuel listed' ((d, undef) :: l) w) :
    WH P n ops K (fun w' => Hp b S w' rk) (fuel + 1) listed l w := fun a ha =>
  wpAnyH_take hi hs (tkc_ok hf).1 (tkc_ok hf).2.1 (fun _ _ _ h => h) (.inr ⟨unwanted hg hv a ha, rfl⟩) hw ((tkc_ok hf).2.2 ▸ k _ (ha.put hd undef))
theorem WH.re2 {Z : World → Prop} {fuel : Nat} {listed : Array Bool} {t : Nat} {u v : Value} (hl : look l t = some u) (e : u = v) (k : WH P n ops K Z fuel listed ((t, v) :: l) w) : WH P n ops K Z fuel listed l w := fun a ha => k a (ha.set hl e)
/-- who is listed, as a number -/
def LM (n m : Nat) : Array Bool := ((List.range n).map fun i => m.testBit i).toArray
/-- a state that is come to in more than one way -/
theorem WH.join {Z : World → Prop} {fuel : Nat} {listed : Array Bool} (J : List (Nat × Value) → World → Prop) (fuel' : Nat) (listed' : Array Bool) (h : ∀ l w, J l w → WH P n ops K Z fuel' listed' l w) (k : (∀ l w, J l w → WH P n ops K Z fuel' listed' l w) → WH P n ops K Z fuel listed l w) : WH P n ops K Z fuel listed l w := k h
theorem WH.kj {Z : World → Prop} {fuel i : Nat} {listed listed' : Array Bool} {J : List (Nat × Value) → World → Prop} {l' : List (Nat × Value)} (hS : ∀ l w, J l w → WH P n ops K Z fuel listed' l w) (he : ((listed.setIfInBounds i true).toList == listed'.toList) = true) (hk : Z w) (hJ : J l' w) (hs : Sb l l') :
    WL P n.asPlain ops (Only K) (HK P ops K Z fuel (listed.setIfInBounds i true)) [] l w := by
  have e : listed.setIfInBounds i true = listed' := Array.toList_inj.1 (by simpa using he)
  exact WH.next hk (e ▸ fun a ha => hS l' w hJ a (ha.sb hs))
theorem WH.one {Z : World → Prop} {fuel : Nat} {listed : Array Bool} (i : Nat) {o : Oper} (hr : Region.ready .any ops listed = [i]) (hi : ops[i]? = some o) (h : WL P n.asPlain ops (Only K) (HK P ops K Z fuel (listed.setIfInBounds i true)) [o] l w) : WH P n ops K Z (fuel + 1) listed l w :=
  WH.all hr (by simp) fun j hj => by obtain rfl := List.mem_singleton.1 hj; exact ⟨o, hi, h⟩
theorem WH.two {Z : World → Prop} {fuel : Nat} {listed : Array Bool} (i j : Nat) {o o' : Oper} (hr : Region.ready .any ops listed = [i, j]) (hi : ops[i]? = some o) (hj : ops[j]? = some o') (h : WL P n.asPlain ops (Only K) (HK P ops K Z fuel (listed.setIfInBounds i true)) [o] l w) (h' : WL P n.asPlain ops (Only K) (HK P ops K Z fuel (listed.setIfInBounds j true)) [o'] l w) : WH P n ops K Z (fuel + 1) listed l w :=
  WH.all hr (by simp) fun k hk => by
    rcases List.mem_cons.1 hk with rfl | hk
    · exact ⟨o, hi, h⟩
    · obtain rfl := List.mem_singleton.1 hk; exact ⟨o', hj, h'⟩
/-- an operation whose guard holds -/
theorem WL.ung {op : Op} {dd : Option Nat} {j : Nat} {want : Bool} (hg : guardOf ops l j = some (.bool want)) (k : WL P n ops Q K (⟨dd, op, ty, pos, aft, none⟩ :: os) l w) : WL P n ops Q K (⟨dd, op, ty, pos, aft, some (j, want)⟩ :: os) l w := by
  intro a ha
  have h1 := k a ha
  unfold wpK at h1 ⊢
  rw [if_pos (wanted_some hg a ha)]
  rw [if_pos (wanted_none a)] at h1
  exact h1
theorem Hp.f4 {S' : Nat → Prop} {w' : World} {F : List Res} {r1 r2 r3 r4 : Res} [FlatR r1] [FlatR r2] [FlatR r3] [FlatR r4] (H : Hp b S w F) (h : Hp w S' w' [r1, r2, r3, r4]) : Hp b S w' (r1 :: r2 :: r3 :: r4 :: F) := H.lift h.re
theorem Hp.z (H : Hp b S w rs) : Hp b S w [] := ⟨H.ext, fun r hr => by simp at hr, fun r hr => by simp at hr, List.Pairwise.nil⟩
theorem Hp.f5 {S' : Nat → Prop} {w' : World} {F : List Res} {r1 r2 r3 r4 r5 : Res} [FlatR r1] [FlatR r2] [FlatR r3] [FlatR r4] [FlatR r5] (H : Hp b S w F) (h : Hp w S' w' [r1, r2, r3, r4, r5]) : Hp b S w' (r1 :: r2 :: r3 :: r4 :: r5 :: F) := H.lift h.re
def ddl (xs : List (Array Bool)) : List (Array Bool) := xs.foldl (fun acc x => if acc.contains x then acc else x :: acc) []
theorem ddl_mem (xs : List (Array Bool)) (x : Array Bool) (h : x ∈ xs) : x ∈ ddl xs := by
  have key : ∀ (xs acc : List (Array Bool)), x ∈ acc ∨ x ∈ xs → x ∈ xs.foldl (fun acc x => if acc.contains x then acc else x :: acc) acc := by
    intro xs
    induction xs with
    | nil => intro acc h; simpa using h
    | cons y xs ih =>
      intro acc h
      rw [List.foldl_cons]
      refine ih _ ?_
      rcases h with h | h
      · left; split <;> simp [h]
      · rcases List.mem_cons.1 h with rfl | h
        · left; split
          · rename_i hc; simpa using hc
          · simp
        · exact .inr h
  exact key xs [] (.inr h)
/-- the orders of a block, layer by layer -/
def layOk (ops : Array Oper) (ids : List Nat) (rest : Nat) (full : Array Bool) : Nat → List (Array Bool) → Bool
  | 0, ls => ls.all fun l => l == full && rest == 0
  | f + 1, ls => if ls.all (fun l => l == full) then f + 1 == rest else ls.all (fun l => !(l == full) && !(Region.ready .any ops l).isEmpty && (Region.ready .any ops l).all fun i => ids.contains i) && layOk ops ids rest full f (ddl (ls.flatMap fun l => (Region.ready .any ops l).map fun i => l.setIfInBounds i true))
theorem layOk_all {ops : Array Oper} {ids : List Nat} {rest : Nat} {full : Array Bool} : ∀ {fuel : Nat} {ls : List (Array Bool)}, layOk ops ids rest full fuel ls = true → ∀ l ∈ ls, blockOk ops ids rest full fuel l = true
  | 0, ls, h, l, hl => by
    simp only [layOk, List.all_eq_true] at h
    exact h l hl
  | f + 1, ls, h, l, hl => by
    unfold layOk at h
    unfold blockOk
    split at h
    · rename_i ha
      rw [if_pos (List.all_eq_true.1 ha l hl)]; exact h
    · simp only [Bool.and_eq_true] at h
      have h1 := List.all_eq_true.1 h.1 l hl
      simp only [Bool.and_eq_true, Bool.not_eq_true'] at h1
      rw [if_neg (by rw [h1.1.1]; decide)]
      rw [Bool.and_eq_true]
      refine ⟨by rw [h1.1.2]; rfl, ?_⟩
      rw [List.all_eq_true]
      intro i hi
      rw [Bool.and_eq_true]
      refine ⟨List.all_eq_true.1 h1.2 i hi, layOk_all h.2 _ (ddl_mem _ _ ?_)⟩
      exact List.mem_flatMap.2 ⟨l, hl, List.mem_map.2 ⟨i, hi, rfl⟩⟩
theorem lay_ok {ops : Array Oper} {ids : List Nat} {rest : Nat} {full : Array Bool} {fuel : Nat} {l : Array Bool} (h : layOk ops ids rest full fuel [l] = true) : blockOk ops ids rest full fuel l = true := layOk_all h l (by simp)
/-- a scope through which the run goes without a jump -/
theorem WP.sc {Q : Exit → Act → World → Prop} {c : Code} (h : WP P n c l w (Exit.noGoto Q)) (hro : n.round = none := by rfl) : WP P n (.scope c) l w Q := fun a ha => by
  have e : n.fence = Fence.wide := Cx.fence_wide hro
  rw [e]
  refine wpIn_wide.2 (wp_scope_straight ?_)
  have h1 := h a ha
  rw [e] at h1
  exact wpIn_wide.1 h1
theorem WP.lab {Q : Exit → Act → World → Prop} {lb : Nat} (h : Pst n Q .normal l w) : WP P n (.label lb) l w Q := fun a ha => wpIn_label (h a ha)
theorem Pst.sc_norm {Q : Exit → Act → World → Prop} (h : Pst n Q .normal l w) : Pst n (Exit.noGoto Q) .normal l w := fun a ha => h a ha
theorem Pst.sc_ret {Q : Exit → Act → World → Prop} (h : Pst n Q .ret l w) : Pst n (Exit.noGoto Q) .ret l w := fun a ha => h a ha
theorem Pst.sc_exit {Q : Exit → Act → World → Prop} {i : Nat} (h : Pst n Q (.exit i) l w) : Pst n (Exit.noGoto Q) (.exit i) l w := fun a ha => h a ha
theorem Ev.fld {t : TypeId} {x : Operand} {f off : Nat} {fs : Array Field} {fl : Field} {cs : List Value} {v : Value} (hu : P.underlying t = some (.struct fs)) (hf : fs[f]? = some fl) (ho : fl.offset = off) (hn : NotAgg P fl.type) (hx : evl l x = some (.agg cs.toArray)) (hv : cs[off]? = some v) : Ev P n l w (.field t x f) v := fun o a w' ho' ha _ => by
  unfold execOp; rw [ho']
  have h1 : (Instr.field t (.agg cs.toArray) f).run P w' = .ok v w' := by
    unfold Instr.field
    simp only [Sem.run_bind, run_underlying hu, Result.andThen_ok, hf]
    simp only [part, asAgg, Sem.run_bind, Sem.run_pure, Result.andThen_ok, hn w', ho]
    simp [hv]
  simp [ha.eval hx, h1]
theorem run_setS {t kt et : TypeId} {z : Int} {g : Nat} {s : List Int} (hm : P.underlying t = some (.map kt et)) (hk : P.underlying kt = some (.int .i64)) (hb : w.heap[g]? = some (.map (setE s) s.length)) :
    (Instr.mapUpdate t (.map (some g)) (.int .i64 z) (.bool true)).run P w = .ok () (w.putObj g (.map (setE (addS s z)) (addS s z).length)) := by
  have hz : MapKept.IsKey (.int .i64) (.int .i64 z) := by simp [MapKept.IsKey]
  have h1 : (Instr.checkKey false 10000 kt (.int .i64 z)).run P w = .ok () w := MapKept.run_checkKey (n := 9999) hk hz false
  rcases MapKept.findNow_spec hz (setE s).toList 0 (setE_keys s) with ⟨hf, hno⟩ | ⟨j, e, hf, hj, he⟩
  · have hc : s.contains z = false := by
      rw [Bool.eq_false_iff, ne_eq, List.contains_iff_mem]
      intro hmem
      obtain ⟨j, hj⟩ := List.getElem?_of_mem hmem
      have h2 : (setE s).toList[j]? = some ⟨.int .i64 z, .bool true, j⟩ := by simp [setE, hj]
      exact hno _ (List.mem_of_getElem? h2) rfl
    have ha : addS s z = s ++ [z] := by unfold addS; rw [hc]; rfl
    have h2 := MapKept.run_findKey (P := P) (w := w) hk hf
    unfold Instr.mapUpdate
    simp only [Sem.run_bind, run_underlying hm, Result.andThen_ok, MapKept.run_getObj_map hb, h1, h2, MapKept.run_setObj_map _ hb]
    rw [ha, ← setE_push, List.length_append]
    rfl
  · obtain ⟨y, hy, rfl⟩ := setE_get hj
    have hyz : y = z := by injection he
    subst hyz
    have ha : addS s y = s := by unfold addS; rw [if_pos (by rw [List.contains_iff_mem]; exact List.mem_of_getElem? hy)]
    have h2 := MapKept.run_findKey (P := P) (w := w) hk hf
    have h3 : (((setE s)[0 + j]?).map (·.key)).getD (.int .i64 y) = .int .i64 y := by
      rw [← Array.getElem?_toList, Nat.zero_add, hj]; rfl
    unfold Instr.mapUpdate
    simp only [Sem.run_bind, run_underlying hm, Result.andThen_ok, MapKept.run_getObj_map hb, h1, h2, h3, MapKept.run_keyThatStays hz, MapKept.run_setObj_map _ hb]
    rw [ha, Nat.zero_add, setE_modify hy]
    rfl
theorem setS {t kt et : TypeId} {m ky vy : Operand} {z : Int} {g : Nat} {s : List Int} (H : Hp b S w rs) (sl : Sel rs (rObj g (.map (setE s) s.length)) rest) (hx : evl l m = some (.map (some g))) (hkey : evl l ky = some (.int .i64 z)) (hv : evl l vy = some (.bool true))
    (hm : P.underlying t = some (.map kt et)) (hk : P.underlying kt = some (.int .i64))
    (k : ∀ w', Hp b S w' (rObj g (.map (setE (addS s z)) (addS s z).length) :: rest) → WL P n ops Q K os l w') : WL P n ops Q K (⟨none, .mapUpdate t m ky vy, ty, pos, aft, none⟩ :: os) l w :=
  WL.unit (fun a _ => wanted_none a) rfl (R := fun w' => w' = w.putObj g (.map (setE (addS s z)) (addS s z).length)) (fun a ha => ⟨_, by
    unfold execOp; simp [ha.eval hx, ha.eval hkey, ha.eval hv, run_setS hm hk (H.obj sl)], rfl⟩) fun w' e => by
    subst e; exact k _ (H.putObj sl _)
abbrev rSet (g : Nat) (s : List Int) : Res := rObj g (.map (setE s) s.length)
theorem mks {t : TypeId} (H : Hp b S w rs) (hd : Nat.blt d n.size = true) (k : ∀ g w', Hp b S w' (rSet g [] :: rs) → WL P n ops Q K os ((d, .map (some g)) :: l) w') : WL P n ops Q K (⟨some d, .makeMap t none, ty, pos, aft, none⟩ :: os) l w := mkm H hd k
theorem Ev.lenS {t kt et : TypeId} {m : Operand} {g : Nat} {s : List Int} (H : Hp b S w rs) (sl : Sel rs (rObj g (.map (setE s) s.length)) rest) (hm : P.underlying t = some (.map kt et)) (hx : evl l m = some (.map (some g))) : Ev P n l w (.call ⟨.builtin .len, #[m], #[t]⟩) (.int .i64 (s.length : Int)) := fun o a w' ho ha ex => by
  have hb : w'.heap[g]? = some (.map (setE s) s.length) := (ex.block g (Array.getElem?_eq_some_iff.1 (H.obj sl)).1).trans (H.obj sl)
  have h1 : (Builtin.len_ #[t] o.type #[.map (some g)]).run P w' = .ok (.int .i64 (s.length : Int)) w' := by
    simp only [Builtin.len_]
    simp [run_underlying hm, MapKept.run_getObj_map hb, setE_size, Result.andThen]
    rfl
  unfold execOp; rw [ho]
  simp only [resolve, Sem.run_bind, Sem.run_pure, Result.andThen_ok, invoke, builtin, List.map_toArray, List.map_cons, List.map_nil, ha.eval hx, h1]
end
theorem filt_at {α : Type} {p : α → Bool} {xs ys : List α} {i j : Nat} {x : α} (hij : i < j) (h1 : ys.take i = (xs.take j).filter p) (h2 : ys.drop j = xs.drop j) (hx : ys[j]? = some x) (hp : p x = true) :
    (ys.set i x).take (i + 1) = (xs.take (j + 1)).filter p ∧ (ys.set i x).drop (j + 1) = xs.drop (j + 1) := by
  have hxs : xs[j]? = some x := by
    have h3 : (ys.drop j)[0]? = (xs.drop j)[0]? := by rw [h2]
    simpa [List.getElem?_drop, hx] using h3.symm
  have hi : i < ys.length := by have := lt_of_get hx; omega
  refine ⟨?_, ?_⟩
  · rw [take_snoc (List.getElem?_set_self hi), List.take_set_of_le (Nat.le_refl _), h1, take_snoc hxs, List.filter_append]
    simp [hp]
  · rw [List.drop_set_of_lt (by omega), ← List.drop_drop, h2, List.drop_drop]
theorem filt_no {α : Type} {p : α → Bool} {xs ys : List α} {i j : Nat} {x : α} (h1 : ys.take i = (xs.take j).filter p) (h2 : ys.drop j = xs.drop j) (hx : ys[j]? = some x) (hp : p x = false) :
    ys.take i = (xs.take (j + 1)).filter p ∧ ys.drop (j + 1) = xs.drop (j + 1) := by
  have hxs : xs[j]? = some x := by
    have h3 : (ys.drop j)[0]? = (xs.drop j)[0]? := by rw [h2]
    simpa [List.getElem?_drop, hx] using h3.symm
  refine ⟨?_, ?_⟩
  · rw [h1, take_snoc hxs, List.filter_append]; simp [hp]
  · rw [← List.drop_drop, h2, List.drop_drop]
end Go.Proofs.YtlnjmkmhmbijmaaGreat
