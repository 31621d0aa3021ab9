/- A map from ints to true that the call has made: a set. What a list holds after a filter in place. -/
import Derived.ProofKit
import Derived.OpenShut
import Derived.ShutString
import Derived.ChangeOld
import Derived.Deep.Slices
import Derived.Deep.Fields
import Derived.Shelf.Sort.Plain
import Derived.Shelf.Slices.In.SortNone
import Derived.Shelf.SlSortCmp.NoneTotal
import Derived.Ground.SlsfProg
import Derived.Test.YtjcklpooaaaglaaGreatrG2
import Derived.Test.YtjcklpooaaaglaaGreatrG1
import Derived.Test.YtjcklpooaaaglaaGreatrG0
import Derived.Test.YtjcklpooaaaglaaGreatProg
import Derived.Test.YtjcklpooaaaglaaGreatRows
set_option linter.all false
namespace Go.Proofs.YtjcklpooaaaglaaGreat
open Go.RowKit

def setE (s : List Int) : Array MapEntry := (s.zipIdx.map fun p => ⟨.int .i64 p.1, .bool true, p.2⟩).toArray
def addS (s : List Int) (z : Int) : List Int := if s.contains z then s else s ++ [z]
theorem setE_size (s : List Int) : (setE s).size = s.length := by simp [setE]
theorem setE_push (s : List Int) (z : Int) : (setE s).push ⟨.int .i64 z, .bool true, s.length⟩ = setE (s ++ [z]) := by
  simp [setE, List.zipIdx_append]
theorem setE_get {s : List Int} {j : Nat} {e : MapEntry} (h : (setE s).toList[j]? = some e) : ∃ z, s[j]? = some z ∧ e = ⟨.int .i64 z, .bool true, j⟩ := by
  simp only [setE, List.getElem?_map, List.getElem?_zipIdx, Nat.zero_add] at h
  cases hs : s[j]? with
  | none => simp [hs] at h
  | some z => simp [hs] at h; exact ⟨z, rfl, h.symm⟩
theorem setE_modify {s : List Int} {j : Nat} {z : Int} (h : s[j]? = some z) : (setE s).modify j (fun e => { e with key := .int .i64 z, val := .bool true }) = setE s := by
  apply Array.ext_getElem?
  intro i
  rw [Array.getElem?_modify]
  by_cases hij : j = i
  · subst hij
    rw [if_pos rfl]
    have h1 : (setE s)[j]? = some ⟨.int .i64 z, .bool true, j⟩ := by
      rw [← Array.getElem?_toList]; simp [setE, h]
    rw [h1]; rfl
  · rw [if_neg hij]
theorem setE_keys (s : List Int) : ∀ x ∈ (setE s).toList, MapKept.IsKey (.int .i64) x.key := by
  intro x hx
  obtain ⟨j, hj⟩ := List.getElem?_of_mem hx
  obtain ⟨z, _, rfl⟩ := setE_get hj
  simp [MapKept.IsKey]
section
variable {P : Program} {n : Cx} {l : List (Nat × Value)} {b w : World} {S : Nat → Prop} {rs rest : List Res} {Q : Exit → Act → World → Prop} {K : Act → World → Prop} {ops : Array Oper} {os : List Oper} {ty : TypeId} {pos : String} {aft : Array Edge} {d : Nat}
theorem unwanted {op : Op} {dd : Option Nat} {j : Nat} {want : Bool} {v : Value} (hg : guardOf ops l j = some v) (hv : unlike want v = true) (a : Act) (ha : Has n l a) :
    Region.wanted ⟨dd, op, ty, pos, aft, some (j, want)⟩ (yielded ops a.tmps) = false := by
  show (yielded ops a.tmps j == some want) = false
  rw [yielded_of ha hg]
  cases v <;> simp [unlike] at hv ⊢
  cases want <;> simp_all
/-- one step's check: who comes up next is free, may come up, and what is listed behind it -/
def tkc (ops : Array Oper) (listed listed' : Array Bool) (i : Nat) : Bool :=
  Region.free .any ops listed i && ((!listed.getD i true && ((ops[i]?).map fun o => o.after.all fun e => !Region.binds .any e || listed.getD e.on false).getD false) && (listed.setIfInBounds i true).toList == listed'.toList)
theorem tkc_ok {listed listed' : Array Bool} {i : Nat} (h : tkc ops listed listed' i = true) : Region.free .any ops listed i = true ∧ (Region.ready .any ops listed).contains i = true ∧ listed.setIfInBounds i true = listed' := by
  simp only [tkc, Bool.and_eq_true, beq_iff_eq] at h
  refine ⟨h.1, ?_, Array.toList_inj.1 h.2.2⟩
  rw [List.contains_iff_mem]
  unfold Region.ready
  refine List.mem_filter.2 ⟨?_, by simpa only [Bool.and_eq_true] using h.2.1⟩
  rw [List.mem_range]
  have h1 := h.2.1.2
  cases ho : ops[i]? with
  | none => rw [ho] at h1; simp at h1
  | some o => exact (Array.getElem?_eq_some_iff.1 ho).1
theorem WH.ns {Z : World → Prop} {fuel : Nat} {listed : Array Bool} (hs : Region.noSelect ops = true) (k : Region.noSelect ops = true → WH P n ops K Z fuel listed l w) : WH P n ops K Z fuel listed l w := k hs
/-- in a region that draws: an operation that only reads is taken first -/
theorem WH.tn {rk : List Res} {fuel : Nat} {listed : Array Bool} (i : Nat) (listed' : Array Bool) {op : Op} {d : Nat} {v : Value} (hs : Region.noSelect ops = true) (hi : ops[i]? = some ⟨some d, op, ty, pos, aft, none⟩) (hf : tkc ops listed listed' i = true)
    (he : ∀ w', Hp b S w' rk → Ev P n l w' op v) (hd : Nat.blt d n.size = true) (hw : Hp b S w rk) (k : WH P n ops K (fun w' => Hp b S w' rk) fuel listed' ((d, v) :: l) w) :
    WH P n ops K (fun w' => Hp b S w' rk) (fuel + 1) listed l w := WH.tk i hi hs (tkc_ok hf).1 (tkc_ok hf).2.1 he hd hw ((tkc_ok hf).2.2 ▸ k)
theorem WH.tng {rk : List Res} {fuel : Nat} {listed : Array Bool} (i : Nat) (listed' : Array Bool) {op : Op} {d j : Nat} {want : Bool} {v : Value} (hs : Region.noSelect ops = true) (hi : ops[i]? = some ⟨some d, op, ty, pos, aft, some (j, want)⟩) (hg : guardOf ops l j = some (.bool want)) (hf : tkc ops listed listed' i = true)
    (he : ∀ w', Hp b S w' rk → Ev P n l w' op v) (hd : Nat.blt d n.size = true) (hw : Hp b S w rk) (k : WH P n ops K (fun w' => Hp b S w' rk) fuel listed' ((d, v) :: l) w) :
    WH P n ops K (fun w' => Hp b S w' rk) (fuel + 1) listed l w := WH.tkg i hi hg hs (tkc_ok hf).1 (tkc_ok hf).2.1 he hd hw ((tkc_ok hf).2.2 ▸ k)
/-- in a region that draws: an operation that is passed over is taken first -/
theorem WH.tnp {rk : List Res} {fuel : Nat} {listed : Array Bool} (i : Nat) (listed' : Array Bool) {op : Op} {d j : Nat} {want : Bool} {u : Value} (hs : Region.noSelect ops = true) (hi : ops[i]? = some ⟨some d, op, ty, pos, aft, some (j, want)⟩) (hg : guardOf ops l j = some u) (hv : unlike want u = true) (hf : tkc ops listed listed' i = true)
    (hd : Nat.blt d n.size = true) (hw : Hp b S w rk) (k : WH P n ops K (fun w' => Hp b S w' rk) fuel listed' ((d, undef) :: l) w) :
    WH P n ops K (fun w' => Hp b S w' rk) (fuel + 1) listed l w := fun a ha =>
  wpAnyH_take hi hs (tkc_ok hf).1 (tkc_ok hf).2.1 (fun _ _ _ h => h) (.inr ⟨unwanted hg hv a ha, rfl⟩) hw ((tkc_ok hf).2.2 ▸ k _ (ha.put hd undef))
theorem WH.re2 {Z : World → Prop} {fuel : Nat} {listed : Array Bool} {t : Nat} {u v : Value} (hl : look l t = some u) (e : u = v) (k : WH P n ops K Z fuel listed ((t, v) :: l) w) : WH P n ops K Z fuel listed l w := fun a ha => k a (ha.set hl e)
/-- who is listed, as a number -/
def LM (n m : Nat) : Array Bool := ((List.range n).map fun i => m.testBit i).toArray
/-- a state that is come to in more than one way -/
theorem WH.join {Z : World → Prop} {fuel : Nat} {listed : Array Bool} (J : List (Nat × Value) → World → Prop) (fuel' : Nat) (listed' : Array Bool) (h : ∀ l w, J l w → WH P n ops K Z fuel' listed' l w) (k : (∀ l w, J l w → WH P n ops K Z fuel' listed' l w) → WH P n ops K Z fuel listed l w) : WH P n ops K Z fuel listed l w := k h
theorem WH.kj {Z : World → Prop} {fuel i : Nat} {listed listed' : Array Bool} {J : List (Nat × Value) → World → Prop} {l' : List (Nat × Value)} (hS : ∀ l w, J l w → WH P n ops K Z fuel listed' l w) (he : ((listed.setIfInBounds i true).toList == listed'.toList) = true) (hk : Z w) (hJ : J l' w) (hs : Sb l l') :
    WL P n.asPlain ops (Only K) (HK P ops K Z fuel (listed.setIfInBounds i true)) [] l w := by
  have e : listed.setIfInBounds i true = listed' := Array.toList_inj.1 (by simpa using he)
  exact WH.next hk (e ▸ fun a ha => hS l' w hJ a (ha.sb hs))
theorem WH.one {Z : World → Prop} {fuel : Nat} {listed : Array Bool} (i : Nat) {o : Oper} (hr : Region.ready .any ops listed = [i]) (hi : ops[i]? = some o) (h : WL P n.asPlain ops (Only K) (HK P ops K Z fuel (listed.setIfInBounds i true)) [o] l w) : WH P n ops K Z (fuel + 1) listed l w :=
  WH.all hr (by simp) fun j hj => by obtain rfl := List.mem_singleton.1 hj; exact ⟨o, hi, h⟩
theorem WH.two {Z : World → Prop} {fuel : Nat} {listed : Array Bool} (i j : Nat) {o o' : Oper} (hr : Region.ready .any ops listed = [i, j]) (hi : ops[i]? = some o) (hj : ops[j]? = some o') (h : WL P n.asPlain ops (Only K) (HK P ops K Z fuel (listed.setIfInBounds i true)) [o] l w) (h' : WL P n.asPlain ops (Only K) (HK P ops K Z fuel (listed.setIfInBounds j true)) [o'] l w) : WH P n ops K Z (fuel + 1) listed l w :=
  WH.all hr (by simp) fun k hk => by
    rcases List.mem_cons.1 hk with rfl | hk
    · exact ⟨o, hi, h⟩
    · obtain rfl := List.mem_singleton.1 hk; exact ⟨o', hj, h'⟩
theorem Hp.f4 {S' : Nat → Prop} {w' : World} {F : List Res} {r1 r2 r3 r4 : Res} [FlatR r1] [FlatR r2] [FlatR r3] [FlatR r4] (H : Hp b S w F) (h : Hp w S' w' [r1, r2, r3, r4]) : Hp b S w' (r1 :: r2 :: r3 :: r4 :: F) := H.lift h.re
theorem Hp.z (H : Hp b S w rs) : Hp b S w [] := ⟨H.ext, fun r hr => by simp at hr, fun r hr => by simp at hr, List.Pairwise.nil⟩
theorem Hp.f5 {S' : Nat → Prop} {w' : World} {F : List Res} {r1 r2 r3 r4 r5 : Res} [FlatR r1] [FlatR r2] [FlatR r3] [FlatR r4] [FlatR r5] (H : Hp b S w F) (h : Hp w S' w' [r1, r2, r3, r4, r5]) : Hp b S w' (r1 :: r2 :: r3 :: r4 :: r5 :: F) := H.lift h.re
def ddl (xs : List (Array Bool)) : List (Array Bool) := xs.foldl (fun acc x => if acc.contains x then acc else x :: acc) []
theorem ddl_mem (xs : List (Array Bool)) (x : Array Bool) (h : x ∈ xs) : x ∈ ddl xs := by
  have key : ∀ (xs acc : List (Array Bool)), x ∈ acc ∨ x ∈ xs → x ∈ xs.foldl (fun acc x => if acc.contains x then acc else x :: acc) acc := by
    intro xs
    induction xs with
    | nil => intro acc h; simpa using h
    | cons y xs ih =>
      intro acc h
      rw [List.foldl_cons]
      refine ih _ ?_
      rcases h with h | h
      · left; split <;> simp [h]
      · rcases List.mem_cons.1 h with rfl | h
        · left; split
          · rename_i hc; simpa using hc
          · simp
        · exact .inr h
  exact key xs [] (.inr h)
/-- the orders of a block, layer by layer -/
def layOk (ops : Array Oper) (ids : List Nat) (rest : Nat) (full : Array Bool) : Nat → List (Array Bool) → Bool
  | 0, ls => ls.all fun l => l == full && rest == 0
  | f + 1, ls => if ls.all (fun l => l == full) then f + 1 == rest else ls.all (fun l => !(l == full) && !(Region.ready .any ops l).isEmpty && (Region.ready .any ops l).all fun i => ids.contains i) && layOk ops ids rest full f (ddl (ls.flatMap fun l => (Region.ready .any ops l).map fun i => l.setIfInBounds i true))
theorem layOk_all {ops : Array Oper} {ids : List Nat} {rest : Nat} {full : Array Bool} : ∀ {fuel : Nat} {ls : List (Array Bool)}, layOk ops ids rest full fuel ls = true → ∀ l ∈ ls, blockOk ops ids rest full fuel l = true
  | 0, ls, h, l, hl => by
    simp only [layOk, List.all_eq_true] at h
    exact h l hl
  | f + 1, ls, h, l, hl => by
    unfold layOk at h
    unfold blockOk
    split at h
    · rename_i ha
      rw [if_pos (List.all_eq_true.1 ha l hl)]; exact h
    · simp only [Bool.and_eq_true] at h
      have h1 := List.all_eq_true.1 h.1 l hl
      simp only [Bool.and_eq_true, Bool.not_eq_true'] at h1
      rw [if_neg (by rw [h1.1.1]; decide)]
      rw [Bool.and_eq_true]
      refine ⟨by rw [h1.1.2]; rfl, ?_⟩
      rw [List.all_eq_true]
      intro i hi
      rw [Bool.and_eq_true]
      refine ⟨List.all_eq_true.1 h1.2 i hi, layOk_all h.2 _ (ddl_mem _ _ ?_)⟩
      exact List.mem_flatMap.2 ⟨l, hl, List.mem_map.2 ⟨i, hi, rfl⟩⟩
theorem lay_ok {ops : Array Oper} {ids : List Nat} {rest : Nat} {full : Array Bool} {fuel : Nat} {l : Array Bool} (h : layOk ops ids rest full fuel [l] = true) : blockOk ops ids rest full fuel l = true := layOk_all h l (by simp)
/-- a scope through which the run goes without a jump -/
theorem WP.sc {Q : Exit → Act → World → Prop} {c : Code} (h : WP P n c l w (Exit.noGoto Q)) (hro : n.round = none := by rfl) : WP P n (.scope c) l w Q := fun a ha => by
  have e : n.fence = Fence.wide := Cx.fence_wide hro
  rw [e]
  refine wpIn_wide.2 (wp_scope_straight ?_)
  have h1 := h a ha
  rw [e] at h1
  exact wpIn_wide.1 h1
theorem WP.lab {Q : Exit → Act → World → Prop} {lb : Nat} (h : Pst n Q .normal l w) : WP P n (.label lb) l w Q := fun a ha => wpIn_label (h a ha)
theorem Pst.sc_norm {Q : Exit → Act → World → Prop} (h : Pst n Q .normal l w) : Pst n (Exit.noGoto Q) .normal l w := fun a ha => h a ha
theorem Pst.sc_ret {Q : Exit → Act → World → Prop} (h : Pst n Q .ret l w) : Pst n (Exit.noGoto Q) .ret l w := fun a ha => h a ha
theorem Ev.fld {t : TypeId} {x : Operand} {f off : Nat} {fs : Array Field} {fl : Field} {cs : List Value} {v : Value} (hu : P.underlying t = some (.struct fs)) (hf : fs[f]? = some fl) (ho : fl.offset = off) (hn : NotAgg P fl.type) (hx : evl l x = some (.agg cs.toArray)) (hv : cs[off]? = some v) : Ev P n l w (.field t x f) v := fun o a w' ho' ha _ => by
  unfold execOp; rw [ho']
  have h1 : (Instr.field t (.agg cs.toArray) f).run P w' = .ok v w' := by
    unfold Instr.field
    simp only [Sem.run_bind, run_underlying hu, Result.andThen_ok, hf]
    simp only [part, asAgg, Sem.run_bind, Sem.run_pure, Result.andThen_ok, hn w', ho]
    simp [hv]
  simp [ha.eval hx, h1]
theorem run_setS {t kt et : TypeId} {z : Int} {g : Nat} {s : List Int} (hm : P.underlying t = some (.map kt et)) (hk : P.underlying kt = some (.int .i64)) (hb : w.heap[g]? = some (.map (setE s) s.length)) :
    (Instr.mapUpdate t (.map (some g)) (.int .i64 z) (.bool true)).run P w = .ok () (w.putObj g (.map (setE (addS s z)) (addS s z).length)) := by
  have hz : MapKept.IsKey (.int .i64) (.int .i64 z) := by simp [MapKept.IsKey]
  have h1 : (Instr.checkKey false 10000 kt (.int .i64 z)).run P w = .ok () w := MapKept.run_checkKey (n := 9999) hk hz false
  rcases MapKept.findNow_spec hz (setE s).toList 0 (setE_keys s) with ⟨hf, hno⟩ | ⟨j, e, hf, hj, he⟩
  · have hc : s.contains z = false := by
      rw [Bool.eq_false_iff, ne_eq, List.contains_iff_mem]
      intro hmem
      obtain ⟨j, hj⟩ := List.getElem?_of_mem hmem
      have h2 : (setE s).toList[j]? = some ⟨.int .i64 z, .bool true, j⟩ := by simp [setE, hj]
      exact hno _ (List.mem_of_getElem? h2) rfl
    have ha : addS s z = s ++ [z] := by unfold addS; rw [hc]; rfl
    have h2 := MapKept.run_findKey (P := P) (w := w) hk hf
    unfold Instr.mapUpdate
    simp only [Sem.run_bind, run_underlying hm, Result.andThen_ok, MapKept.run_getObj_map hb, h1, h2, MapKept.run_setObj_map _ hb]
    rw [ha, ← setE_push, List.length_append]
    rfl
  · obtain ⟨y, hy, rfl⟩ := setE_get hj
    have hyz : y = z := by injection he
    subst hyz
    have ha : addS s y = s := by unfold addS; rw [if_pos (by rw [List.contains_iff_mem]; exact List.mem_of_getElem? hy)]
    have h2 := MapKept.run_findKey (P := P) (w := w) hk hf
    have h3 : (((setE s)[0 + j]?).map (·.key)).getD (.int .i64 y) = .int .i64 y := by
      rw [← Array.getElem?_toList, Nat.zero_add, hj]; rfl
    unfold Instr.mapUpdate
    simp only [Sem.run_bind, run_underlying hm, Result.andThen_ok, MapKept.run_getObj_map hb, h1, h2, h3, MapKept.run_keyThatStays hz, MapKept.run_setObj_map _ hb]
    rw [ha, Nat.zero_add, setE_modify hy]
    rfl
theorem setS {t kt et : TypeId} {m ky vy : Operand} {z : Int} {g : Nat} {s : List Int} (H : Hp b S w rs) (sl : Sel rs (rObj g (.map (setE s) s.length)) rest) (hx : evl l m = some (.map (some g))) (hkey : evl l ky = some (.int .i64 z)) (hv : evl l vy = some (.bool true))
    (hm : P.underlying t = some (.map kt et)) (hk : P.underlying kt = some (.int .i64))
    (k : ∀ w', Hp b S w' (rObj g (.map (setE (addS s z)) (addS s z).length) :: rest) → WL P n ops Q K os l w') : WL P n ops Q K (⟨none, .mapUpdate t m ky vy, ty, pos, aft, none⟩ :: os) l w :=
  WL.unit (fun a _ => wanted_none a) rfl (R := fun w' => w' = w.putObj g (.map (setE (addS s z)) (addS s z).length)) (fun a ha => ⟨_, by
    unfold execOp; simp [ha.eval hx, ha.eval hkey, ha.eval hv, run_setS hm hk (H.obj sl)], rfl⟩) fun w' e => by
    subst e; exact k _ (H.putObj sl _)
abbrev rSet (g : Nat) (s : List Int) : Res := rObj g (.map (setE s) s.length)
theorem mks {t : TypeId} (H : Hp b S w rs) (hd : Nat.blt d n.size = true) (k : ∀ g w', Hp b S w' (rSet g [] :: rs) → WL P n ops Q K os ((d, .map (some g)) :: l) w') : WL P n ops Q K (⟨some d, .makeMap t none, ty, pos, aft, none⟩ :: os) l w := mkm H hd k
theorem Ev.lenS {t kt et : TypeId} {m : Operand} {g : Nat} {s : List Int} (H : Hp b S w rs) (sl : Sel rs (rObj g (.map (setE s) s.length)) rest) (hm : P.underlying t = some (.map kt et)) (hx : evl l m = some (.map (some g))) : Ev P n l w (.call ⟨.builtin .len, #[m], #[t]⟩) (.int .i64 (s.length : Int)) := fun o a w' ho ha ex => by
  have hb : w'.heap[g]? = some (.map (setE s) s.length) := (ex.block g (Array.getElem?_eq_some_iff.1 (H.obj sl)).1).trans (H.obj sl)
  have h1 : (Builtin.len_ #[t] o.type #[.map (some g)]).run P w' = .ok (.int .i64 (s.length : Int)) w' := by
    simp only [Builtin.len_]
    simp [run_underlying hm, MapKept.run_getObj_map hb, setE_size, Result.andThen]
    rfl
  unfold execOp; rw [ho]
  simp only [resolve, Sem.run_bind, Sem.run_pure, Result.andThen_ok, invoke, builtin, List.map_toArray, List.map_cons, List.map_nil, ha.eval hx, h1]
end
theorem filt_at {α : Type} {p : α → Bool} {xs ys : List α} {i j : Nat} {x : α} (hij : i < j) (h1 : ys.take i = (xs.take j).filter p) (h2 : ys.drop j = xs.drop j) (hx : ys[j]? = some x) (hp : p x = true) :
    (ys.set i x).take (i + 1) = (xs.take (j + 1)).filter p ∧ (ys.set i x).drop (j + 1) = xs.drop (j + 1) := by
  have hxs : xs[j]? = some x := by
    have h3 : (ys.drop j)[0]? = (xs.drop j)[0]? := by rw [h2]
    simpa [List.getElem?_drop, hx] using h3.symm
  have hi : i < ys.length := by have := lt_of_get hx; omega
  refine ⟨?_, ?_⟩
  · rw [take_snoc (List.getElem?_set_self hi), List.take_set_of_le (Nat.le_refl _), h1, take_snoc hxs, List.filter_append]
    simp [hp]
  · rw [List.drop_set_of_lt (by omega), ← List.drop_drop, h2, List.drop_drop]
theorem filt_no {α : Type} {p : α → Bool} {xs ys : List α} {i j : Nat} {x : α} (h1 : ys.take i = (xs.take j).filter p) (h2 : ys.drop j = xs.drop j) (hx : ys[j]? = some x) (hp : p x = false) :
    ys.take i = (xs.take (j + 1)).filter p ∧ ys.drop (j + 1) = xs.drop (j + 1) := by
  have hxs : xs[j]? = some x := by
    have h3 : (ys.drop j)[0]? = (xs.drop j)[0]? := by rw [h2]
    simpa [List.getElem?_drop, hx] using h3.symm
  refine ⟨?_, ?_⟩
  · rw [h1, take_snoc hxs, List.filter_append]; simp [hp]
  · rw [← List.drop_drop, h2, List.drop_drop]
end Go.Proofs.YtjcklpooaaaglaaGreat
set_option linter.all false
namespace Go.Proofs.YtjcklpooaaaglaaGreat
open Go.RowKit

section
variable {P : Program} {n : Cx} {l : List (Nat × Value)} {b w : World} {S : Nat → Prop} {rs rest : List Res} {Q : Exit → Act → World → Prop} {K : Act → World → Prop} {ops : Array Oper} {os : List Oper} {ty : TypeId} {pos : String} {aft : Array Edge} {d : Nat}
theorem Hp.was {g : Nat} {o : Obj} (H : Hp b S w rs) (h : b.heap[g]? = some o) : w.heap[g]? = some o := (H.ext.block g (Array.getElem?_eq_some_iff.1 h).1).trans h
theorem setE_none {s : List Int} {z : Int} (hno : ∀ x ∈ (setE s).toList, x.key ≠ .int .i64 z) : s.contains z = false := by
  rw [Bool.eq_false_iff, ne_eq, List.contains_iff_mem]
  intro hmem
  obtain ⟨j, hj⟩ := List.getElem?_of_mem hmem
  have h2 : (setE s).toList[j]? = some ⟨.int .i64 z, .bool true, j⟩ := by simp [setE, hj]
  exact hno _ (List.mem_of_getElem? h2) rfl
theorem run_lookS {t kt et : TypeId} {z : Int} {g : Nat} {s : List Int} (hm : P.underlying t = some (.map kt et)) (hk : P.underlying kt = some (.int .i64)) (hz : ∀ w, (zeroValue et).run P w = .ok (.bool false) w) (hb : w.heap[g]? = some (.map (setE s) s.length)) :
    (Instr.lookup t (.map (some g)) (.int .i64 z) false).run P w = .ok (.bool (s.contains z)) w := by
  have hkz : MapKept.IsKey (.int .i64) (.int .i64 z) := by simp [MapKept.IsKey]
  have h1 : ∀ e, (Instr.checkKey e 10000 kt (.int .i64 z)).run P w = .ok () w := fun e => MapKept.run_checkKey (n := 9999) hk hkz e
  rcases MapKept.findNow_spec hkz (setE s).toList 0 (setE_keys s) with ⟨hf, hno⟩ | ⟨j, e, hf, hj, he⟩
  · have h2 := MapKept.run_findKey (P := P) (w := w) hk hf
    unfold Instr.lookup
    simp only [Sem.run_bind, run_underlying hm, Result.andThen_ok, MapKept.run_getObj_map hb, Sem.run_pure, h1, h2, hz]
    rw [setE_none hno]; rfl
  · obtain ⟨y, hy, rfl⟩ := setE_get hj
    have hyz : y = z := by injection he
    subst hyz
    have h2 := MapKept.run_findKey (P := P) (w := w) hk hf
    unfold Instr.lookup
    simp only [Sem.run_bind, run_underlying hm, Result.andThen_ok, MapKept.run_getObj_map hb, Sem.run_pure, h1, h2]
    rw [show s.contains y = true from List.contains_iff_mem.2 (List.mem_of_getElem? hy)]; rfl
theorem Ev.lookS {t kt et : TypeId} {z : Int} {g : Nat} {s : List Int} {m ky : Operand} (hb : w.heap[g]? = some (.map (setE s) s.length)) (hm : P.underlying t = some (.map kt et)) (hk : P.underlying kt = some (.int .i64)) (hz : ∀ w, (zeroValue et).run P w = .ok (.bool false) w) (hx : evl l m = some (.map (some g))) (hy : evl l ky = some (.int .i64 z)) :
    Ev P n l w (.lookup t m ky false) (.bool (s.contains z)) := fun o a w' ho ha ex => by
  have hb' : w'.heap[g]? = some (.map (setE s) s.length) := (ex.block g (Array.getElem?_eq_some_iff.1 hb).1).trans hb
  unfold execOp; rw [ho]
  simp only [ha.eval hx, ha.eval hy]
  simp only [Sem.run_bind, run_lookS (P := P) (s := s) (z := z) hm hk hz hb', Result.andThen_ok, Sem.run_pure]
/-! ### counts by key -/
def cntE (s : List (Int × Int)) : Array MapEntry := (s.zipIdx.map fun p => ⟨.int .i64 p.1.1, .int .i64 p.1.2, p.2⟩).toArray
def getC (s : List (Int × Int)) (z : Int) : Int := match s.find? (fun p => decide (p.1 = z)) with | some p => p.2 | none => 0
def putC (s : List (Int × Int)) (z v : Int) : List (Int × Int) := if s.any (fun p => decide (p.1 = z)) then s.map (fun p => if p.1 = z then (z, v) else p) else s ++ [(z, v)]
abbrev rCnt (g : Nat) (s : List (Int × Int)) : Res := rObj g (.map (cntE s) s.length)
theorem cntE_get {s : List (Int × Int)} {j : Nat} {e : MapEntry} (h : (cntE s).toList[j]? = some e) : ∃ p, s[j]? = some p ∧ e = ⟨.int .i64 p.1, .int .i64 p.2, j⟩ := by
  simp only [cntE, List.getElem?_map, List.getElem?_zipIdx, Nat.zero_add] at h
  cases hs : s[j]? with
  | none => simp [hs] at h
  | some p => simp [hs] at h; exact ⟨p, rfl, h.symm⟩
theorem cntE_keys (s : List (Int × Int)) : ∀ x ∈ (cntE s).toList, MapKept.IsKey (.int .i64) x.key := by
  intro x hx
  obtain ⟨j, hj⟩ := List.getElem?_of_mem hx
  obtain ⟨z, _, rfl⟩ := cntE_get hj
  simp [MapKept.IsKey]
theorem cntE_none {s : List (Int × Int)} {z : Int} (hno : ∀ x ∈ (cntE s).toList, x.key ≠ .int .i64 z) : ∀ p ∈ s, p.1 ≠ z := by
  intro p hp e
  obtain ⟨j, hj⟩ := List.getElem?_of_mem hp
  have h2 : (cntE s).toList[j]? = some ⟨.int .i64 p.1, .int .i64 p.2, j⟩ := by simp [cntE, hj]
  exact hno _ (List.mem_of_getElem? h2) (by rw [e])
/-- each key once -/
def KeyOnce (s : List (Int × Int)) : Prop := s.Pairwise fun p q => p.1 ≠ q.1
theorem getC_at {s : List (Int × Int)} (hs : KeyOnce s) {p : Int × Int} (hp : p ∈ s) : getC s p.1 = p.2 := by
  induction s with
  | nil => simp at hp
  | cons q s ih =>
    have h1 := List.pairwise_cons.1 hs
    unfold getC
    by_cases e : q.1 = p.1
    · rw [List.find?_cons_of_pos (by simpa using e)]
      rcases List.mem_cons.1 hp with h | h
      · rw [h]
      · exact absurd e (h1.1 p h)
    · rw [List.find?_cons_of_neg (by simpa using e)]
      exact ih h1.2 ((List.mem_cons.1 hp).resolve_left fun h => e (h ▸ rfl))
theorem getC_no {s : List (Int × Int)} {z : Int} (h : ∀ p ∈ s, p.1 ≠ z) : getC s z = 0 := by
  unfold getC; rw [List.find?_eq_none.2 (fun p hp => by simpa using h p hp)]
theorem run_lookC {t kt et : TypeId} {z : Int} {g : Nat} {s : List (Int × Int)} (hs : KeyOnce s) (hm : P.underlying t = some (.map kt et)) (hk : P.underlying kt = some (.int .i64)) (hz : ∀ w, (zeroValue et).run P w = .ok (.int .i64 0) w) (hb : w.heap[g]? = some (.map (cntE s) s.length)) :
    (Instr.lookup t (.map (some g)) (.int .i64 z) false).run P w = .ok (.int .i64 (getC s z)) w := by
  have hkz : MapKept.IsKey (.int .i64) (.int .i64 z) := by simp [MapKept.IsKey]
  have h1 : ∀ e, (Instr.checkKey e 10000 kt (.int .i64 z)).run P w = .ok () w := fun e => MapKept.run_checkKey (n := 9999) hk hkz e
  rcases MapKept.findNow_spec hkz (cntE s).toList 0 (cntE_keys s) with ⟨hf, hno⟩ | ⟨j, e, hf, hj, he⟩
  · have h2 := MapKept.run_findKey (P := P) (w := w) hk hf
    unfold Instr.lookup
    simp only [Sem.run_bind, run_underlying hm, Result.andThen_ok, MapKept.run_getObj_map hb, Sem.run_pure, h1, h2, hz]
    rw [getC_no (cntE_none hno)]; rfl
  · obtain ⟨p, hp, rfl⟩ := cntE_get hj
    have hyz : p.1 = z := by injection he
    subst hyz
    have h2 := MapKept.run_findKey (P := P) (w := w) hk hf
    unfold Instr.lookup
    simp only [Sem.run_bind, run_underlying hm, Result.andThen_ok, MapKept.run_getObj_map hb, Sem.run_pure, h1, h2]
    rw [getC_at hs (List.mem_of_getElem? hp)]; rfl
theorem Ev.lookC {t kt et : TypeId} {z : Int} {g : Nat} {s : List (Int × Int)} {m ky : Operand} (hb : w.heap[g]? = some (.map (cntE s) s.length)) (hs : KeyOnce s) (hm : P.underlying t = some (.map kt et)) (hk : P.underlying kt = some (.int .i64)) (hz : ∀ w, (zeroValue et).run P w = .ok (.int .i64 0) w) (hx : evl l m = some (.map (some g))) (hy : evl l ky = some (.int .i64 z)) :
    Ev P n l w (.lookup t m ky false) (.int .i64 (getC s z)) := fun o a w' ho ha ex => by
  have hb' : w'.heap[g]? = some (.map (cntE s) s.length) := (ex.block g (Array.getElem?_eq_some_iff.1 hb).1).trans hb
  unfold execOp; rw [ho]
  simp only [ha.eval hx, ha.eval hy]
  simp only [Sem.run_bind, run_lookC (P := P) (s := s) (z := z) hs hm hk hz hb', Result.andThen_ok, Sem.run_pure]
theorem cntE_push (s : List (Int × Int)) (z v : Int) : (cntE s).push ⟨.int .i64 z, .int .i64 v, s.length⟩ = cntE (s ++ [(z, v)]) := by
  simp [cntE, List.zipIdx_append]
theorem putC_len (s : List (Int × Int)) (z v : Int) : (putC s z v).length = if s.any (fun p => decide (p.1 = z)) then s.length else s.length + 1 := by
  unfold putC; split <;> simp
theorem putC_once {s : List (Int × Int)} (hs : KeyOnce s) (z v : Int) : KeyOnce (putC s z v) := by
  unfold putC; split
  · refine List.pairwise_map.2 (hs.imp fun {p q} h => ?_)
    split <;> split <;> simp_all
  · rename_i h
    refine List.pairwise_append.2 ⟨hs, List.pairwise_singleton _ _, fun p hp q hq e => h ?_⟩
    rw [List.mem_singleton.1 hq] at e
    exact List.any_eq_true.2 ⟨p, hp, by simpa using e⟩
theorem cntE_modify {s : List (Int × Int)} (hs : KeyOnce s) {j : Nat} {p : Int × Int} (h : s[j]? = some p) (v : Int) : (cntE s).modify j (fun e => { e with key := .int .i64 p.1, val := .int .i64 v }) = cntE (putC s p.1 v) := by
  have ha : putC s p.1 v = s.map (fun q => if q.1 = p.1 then (p.1, v) else q) := if_pos (List.any_eq_true.2 ⟨p, List.mem_of_getElem? h, by simp⟩)
  rw [ha]
  apply Array.ext_getElem?
  intro i
  rw [Array.getElem?_modify]
  have hE : ∀ (t : List (Int × Int)) (k : Nat), (cntE t)[k]? = (t[k]?).map fun q => ⟨.int .i64 q.1, .int .i64 q.2, k⟩ := fun t k => by
    rw [← Array.getElem?_toList]; simp only [cntE, List.getElem?_map, List.getElem?_zipIdx, Nat.zero_add]
    cases t[k]? <;> rfl
  rw [hE, hE, List.getElem?_map]
  by_cases hij : j = i
  · subst hij
    rw [if_pos rfl, h]; simp
  · rw [if_neg hij]
    cases hi : s[i]? with
    | none => rfl
    | some q =>
      simp only [Option.map_some]
      have hne : q.1 ≠ p.1 := fun e => by
        have hlj := (List.getElem?_eq_some_iff.1 h).1
        have hli := (List.getElem?_eq_some_iff.1 hi).1
        have h1 := List.pairwise_iff_getElem.1 hs
        rcases Nat.lt_or_gt_of_ne hij with h3 | h3
        · have := h1 j i hlj hli h3
          rw [(List.getElem?_eq_some_iff.1 h).2, (List.getElem?_eq_some_iff.1 hi).2] at this; exact this e.symm
        · have := h1 i j hli hlj h3
          rw [(List.getElem?_eq_some_iff.1 h).2, (List.getElem?_eq_some_iff.1 hi).2] at this; exact this e
      rw [if_neg hne]
theorem run_setC {t kt et : TypeId} {z v : Int} {g : Nat} {s : List (Int × Int)} (hs : KeyOnce s) (hm : P.underlying t = some (.map kt et)) (hk : P.underlying kt = some (.int .i64)) (hb : w.heap[g]? = some (.map (cntE s) s.length)) :
    (Instr.mapUpdate t (.map (some g)) (.int .i64 z) (.int .i64 v)).run P w = .ok () (w.putObj g (.map (cntE (putC s z v)) (putC s z v).length)) := by
  have hz : MapKept.IsKey (.int .i64) (.int .i64 z) := by simp [MapKept.IsKey]
  have h1 : (Instr.checkKey false 10000 kt (.int .i64 z)).run P w = .ok () w := MapKept.run_checkKey (n := 9999) hk hz false
  rcases MapKept.findNow_spec hz (cntE s).toList 0 (cntE_keys s) with ⟨hf, hno⟩ | ⟨j, e, hf, hj, he⟩
  · have hno' := cntE_none hno
    have ha : putC s z v = s ++ [(z, v)] := if_neg (by rw [List.any_eq_true]; rintro ⟨p, hp, h⟩; exact hno' p hp (by simpa using h))
    have h2 := MapKept.run_findKey (P := P) (w := w) hk hf
    unfold Instr.mapUpdate
    simp only [Sem.run_bind, run_underlying hm, Result.andThen_ok, MapKept.run_getObj_map hb, h1, h2, MapKept.run_setObj_map _ hb]
    rw [ha, ← cntE_push, List.length_append]
    rfl
  · obtain ⟨p, hp, rfl⟩ := cntE_get hj
    have hyz : p.1 = z := by injection he
    subst hyz
    have ha : (putC s p.1 v).length = s.length := by rw [putC_len, if_pos (List.any_eq_true.2 ⟨p, List.mem_of_getElem? hp, by simp⟩)]
    have h2 := MapKept.run_findKey (P := P) (w := w) hk hf
    have h3 : (((cntE s)[0 + j]?).map (·.key)).getD (.int .i64 p.1) = .int .i64 p.1 := by
      rw [← Array.getElem?_toList, Nat.zero_add, hj]; rfl
    unfold Instr.mapUpdate
    simp only [Sem.run_bind, run_underlying hm, Result.andThen_ok, MapKept.run_getObj_map hb, h1, h2, h3, MapKept.run_keyThatStays hz, MapKept.run_setObj_map _ hb]
    rw [ha, Nat.zero_add, cntE_modify hs hp]
    rfl
theorem setC {t kt et : TypeId} {m ky vy : Operand} {z v : Int} {g : Nat} {s : List (Int × Int)} (hs : KeyOnce s) (H : Hp b S w rs) (sl : Sel rs (rCnt g s) rest) (hx : evl l m = some (.map (some g))) (hkey : evl l ky = some (.int .i64 z)) (hv : evl l vy = some (.int .i64 v))
    (hm : P.underlying t = some (.map kt et)) (hk : P.underlying kt = some (.int .i64))
    (k : ∀ w', Hp b S w' (rCnt g (putC s z v) :: rest) → WL P n ops Q K os l w') : WL P n ops Q K (⟨none, .mapUpdate t m ky vy, ty, pos, aft, none⟩ :: os) l w :=
  WL.unit (fun a _ => wanted_none a) rfl (R := fun w' => w' = w.putObj g (.map (cntE (putC s z v)) (putC s z v).length)) (fun a ha => ⟨_, by
    unfold execOp; simp [ha.eval hx, ha.eval hkey, ha.eval hv, run_setC hs hm hk (H.obj sl)], rfl⟩) fun w' e => by
    subst e; exact k _ (H.putObj sl _)
theorem mkc {t : TypeId} (H : Hp b S w rs) (hd : Nat.blt d n.size = true) (k : ∀ g w', Hp b S w' (rCnt g [] :: rs) → WL P n ops Q K os ((d, .map (some g)) :: l) w') : WL P n ops Q K (⟨some d, .makeMap t none, ty, pos, aft, none⟩ :: os) l w := mkm H hd k
end
/-! ### numbers of any size as floats -/
abbrev fz (z : Int) : Nat := FloatKind.f64.nearest z
theorem c01 : FloatKind.f64.format.add 0 4607182418800017408 = some (fb 1) := by decide +kernel
theorem fz_nat (m : Nat) : fz (m : Int) = fb m := rfl
theorem read_write_num (neg : Bool) (mag : Nat) (place : Int) : (Ieee.double.read (Ieee.double.nearest neg mag place)).isNaN = false := by
  have key : ∀ (s : Bool) (r : Nat), r ≤ Ieee.double.infRung → (Ieee.double.read (Ieee.double.word s r)).isNaN = false := by
    intro s r hr
    have hI : Ieee.double.infRung < Ieee.double.signWeight := by decide
    have hm : Ieee.double.word s r % Ieee.double.signWeight = r := by
      unfold Ieee.Format.word
      cases s
      · show r % Ieee.double.signWeight = r
        exact Nat.mod_eq_of_lt (by omega)
      · show (Ieee.double.signWeight + r) % Ieee.double.signWeight = r
        rw [Nat.add_mod_left]; exact Nat.mod_eq_of_lt (by omega)
    unfold Ieee.Format.read
    simp only [hm]
    split
    · rfl
    · split
      · rfl
      · split
        · rfl
        · omega
  unfold Ieee.Format.nearest
  split
  · exact key _ _ (Nat.zero_le _)
  · exact key _ _ (Nat.min_le_right _ _)
theorem fz_add0 (z : Int) : ∃ e, FloatKind.f64.format.add (fz z) 0 = some e := by
  have h := read_write_num (decide (z < 0)) z.natAbs 0
  have h0 : Ieee.double.read 0 = .number false 0 Ieee.double.leastPlace := by decide
  show ∃ e, ((Ieee.double.read (fz z)).sum (Ieee.double.read 0)).map Ieee.double.write = some e
  have he : fz z = Ieee.double.nearest (decide (z < 0)) z.natAbs 0 := rfl
  rw [he, h0]
  cases hr : Ieee.double.read (Ieee.double.nearest (decide (z < 0)) z.natAbs 0) with
  | number s m i => exact ⟨_, rfl⟩
  | infinity s => exact ⟨_, rfl⟩
  | nan s f => rw [hr] at h; cases h
/-- the imaginary part behind one more real one, or none -/
def wIm (o : Bool) (z : Int) : Nat := if o = true then (FloatKind.f64.format.add (fz z) 0).getD 0 else fz z
theorem wIm_add (z : Int) : FloatKind.f64.format.add (fz z) 0 = some (wIm true z) := by
  obtain ⟨e, h⟩ := fz_add0 z
  rw [h]; show some e = some _; unfold wIm; rw [if_pos rfl, h]; rfl
theorem wIm_ok (o : Bool) {m : Nat} (h : m < 130) : wIm o (m : Int) = fb m := by
  unfold wIm; split
  · rw [fz_nat, fb_add0 m h]; rfl
  · rfl
theorem fb_ne : ∀ n, n < 70 → ∀ m, m < 70 → ((FloatKind.f64.format.order (fb n) (fb m) == some .eq) = decide (n = m)) := by decide +kernel
theorem fb_lt : ∀ n, n < 70 → ∀ m, m < 70 → ((FloatKind.f64.format.order (fb n) (fb m) == some .lt) = decide (n < m)) := by decide +kernel
section
variable {P : Program} {n : Cx} {l : List (Nat × Value)} {w : World} {t ty : TypeId} {x y : Operand}
theorem Ev.fneq {a b : Nat} (ha : a < 70) (hb : b < 70) (hx : evl l x = some (.float .f64 (fb a))) (hy : evl l y = some (.float .f64 (fb b))) : Ev P n l w (.binOp .neq t x y ty) (.bool (!decide (a = b))) :=
  Ev.binop hx hy (eqGuard_at_float ..) fun w => by
    have := fb_ne a ha b hb
    simp [binOp, Op.floatCmp, bne, this]
theorem Ev.flss {a b : Nat} (ha : a < 70) (hb : b < 70) (hx : evl l x = some (.float .f64 (fb a))) (hy : evl l y = some (.float .f64 (fb b))) : Ev P n l w (.binOp .lss t x y ty) (.bool (decide (a < b))) :=
  Ev.binop hx hy (eqGuard_at_float ..) fun w => by
    have := fb_lt a ha b hb
    simp [binOp, Op.floatCmp, this]
theorem Ev.itofz {d : TypeId} {k : IntKind} {z : Int} (hs : ∃ k, P.underlying t = some k) (hd : P.underlying d = some (.float .f64)) (hx : evl l x = some (.int k z)) : Ev P n l w (.convert t d x) (.float .f64 (fz z)) := fun o ac w' ho ha _ => by
  unfold execOp; rw [ho]
  obtain ⟨k, hk⟩ := hs
  simp [ha.eval hx, convert, run_underlying hk, run_underlying hd, Conv.intToFloat]
theorem Ev.mkcx {a b : Nat} {ts : Array TypeId} (hx : evl l x = some (.float .f64 a)) (hy : evl l y = some (.float .f64 b)) : Ev P n l w (.call ⟨.builtin .complex, #[x, y], ts⟩) (.complex .f64 a b) := fun o ac w' ho ha _ => by
  unfold execOp; rw [ho]
  simp only [resolve, Sem.run_bind, Sem.run_pure, Result.andThen_ok, invoke, builtin, List.map_toArray, List.map_cons, List.map_nil, ha.eval hx, ha.eval hy]
  rfl
end
end Go.Proofs.YtjcklpooaaaglaaGreat
set_option linter.all false
namespace Go.Proofs.YtjcklpooaaaglaaGreat
open Go.RowKit
section
variable {P : Program} {n : Cx} {l : List (Nat × Value)} {w : World} {t ty : TypeId} {x y : Operand}
theorem Ev.quo {a c : Int} (hx : evl l x = some (.int .i64 a)) (hy : evl l y = some (.int .i64 c)) (hc : c ≠ 0) (h : I64 (a.tdiv c)) : Ev P n l w (.binOp .quo t x y ty) (.int .i64 (a.tdiv c)) :=
  Ev.binop hx hy (eqGuard_at_int ..) fun w => by
    have hw := h.wrap
    simp [binOp, Op.intDiv, hc, hw]
theorem Ev.idxA {e : TypeId} {len i : Nat} {cs : List Value} {v : Value} (hu : P.underlying t = some (.array len e)) (hs : Size P e 1) (hn : NotAgg P e) (hi : i < len) (hx : evl l x = some (.agg cs.toArray)) (hy : evl l y = some (.int .i64 (i : Int))) (hv : cs[i]? = some v) :
    Ev P n l w (.index t x y) v := fun o a w' ho ha _ => by
  unfold execOp; rw [ho]
  have h1 : (Instr.index t (.agg cs.toArray) (.int .i64 (i : Int))).run P w' = .ok v w' := by
    unfold Instr.index
    simp only [asIntOf, Sem.run_bind, Sem.run_pure, run_underlying hu, Result.andThen_ok]
    rw [if_pos ⟨by omega, by omega⟩]
    simp only [part, asAgg, Sem.run_bind, Sem.run_pure, Result.andThen_ok, hn w', hs w']
    simp [hv]
  simp [ha.eval hx, ha.eval hy, h1]
end
theorem half (i : Nat) : ((i : Int) - 1).tdiv 2 = (((i - 1) / 2 : Nat) : Int) := by
  cases i with
  | zero => rfl
  | succ i =>
    have e : (((i + 1 : Nat) : Int) - 1) = (i : Int) := by omega
    rw [e, Nat.add_sub_cancel]; rfl
end Go.Proofs.YtjcklpooaaaglaaGreat
set_option linter.all false
namespace Go.Proofs.YtjcklpooaaaglaaGreat
open Go.ChangeShapes Go.WideShapes Go.ChangeAt Go.RowKit Go.Deep

/-- what reads as data of this type is an element -/
def Reads {α : Type} (P : Program) (e : TypeId) (τ : Ty α) (good : α → Prop) : Prop :=
  ∀ {H : Type} (enc : TypeId × Value → H) (w : World) (base : Nat) (spare : Nat → Bool) (held : Bool) (fuel : Nat) (cs : List Value) (x : DataW H × List MemPlace),
    DataW.trod enc P w base spare held fuel e cs = some x → ∃ y, τ.R Any w y cs ∧ good y

theorem in_i64 {x : Int} (h : (Lit.int .i64 x).wf = true) : InI64 x := by
  simp only [Lit.wf, Bool.and_eq_true, decide_eq_true_eq] at h
  have e1 : IntKind.i64.min = -9223372036854775808 := by decide
  have e2 : IntKind.i64.max = 9223372036854775807 := by decide
  rw [e1, e2] at h
  exact h
theorem in_u32 {x : Int} (h : (Lit.int .u32 x).wf = true) : InU32 x := by
  simp only [Lit.wf, Bool.and_eq_true, decide_eq_true_eq] at h
  have e1 : IntKind.u32.min = 0 := by decide
  have e2 : IntKind.u32.max = 4294967295 := by decide
  rw [e1, e2] at h
  exact h

section
variable {H : Type} {enc : TypeId × Value → H} {P : Program} {w : World} {base : Nat} {spare : Nat → Bool} {held : Bool}
theorem exists_list {α : Type} {q : Nat → α → Prop} : ∀ (n : Nat), (∀ i, i < n → ∃ x, q i x) → ∃ xs : List α, xs.length = n ∧ ∀ (i : Nat) (x : α), xs[i]? = some x → q i x
  | 0, _ => ⟨[], rfl, fun i x hx => by simp at hx⟩
  | n + 1, h => by
    obtain ⟨xs, h1, h2⟩ := exists_list n (fun i hi => h i (by omega))
    obtain ⟨x, hx⟩ := h n (by omega)
    refine ⟨xs ++ [x], by simp [h1], fun i y hy => ?_⟩
    by_cases hi : i < xs.length
    · rw [List.getElem?_append_left hi] at hy
      exact h2 i y hy
    · rw [List.getElem?_append_right (by omega)] at hy
      have h3 : i - xs.length = 0 := by
        rcases Nat.eq_zero_or_pos (i - xs.length) with h | h
        · exact h
        · rw [List.getElem?_eq_none (by simp; omega)] at hy; cases hy
      rw [h3] at hy
      simp at hy
      subst hy
      have : i = n := by omega
      subst this
      exact hx
theorem Reads.slice {α : Type} {e t : TypeId} {τ : Ty α} {good : α → Prop} (hr : Reads P e τ good) (hk : P.cellsOf e = τ.k) (ht : P.underlying t = some (.slice e)) {fuel : Nat} {cs : List Value} {x : DataW H × List MemPlace} (h : DataW.trod enc P w base spare held fuel t cs = some x) :
    ∃ (A : Option Addr) (xs : List α) (c : Nat), cs = [.slice A xs.length c] ∧ Sl τ Any w A c xs ∧ ∀ y ∈ xs, good y := by
  rcases open_slice ht h with ⟨h1, _⟩ | ⟨a, len, cap, m, n, D, Pl, h1, _, h3, h4, h5, _, h7⟩
  · exact ⟨none, [], 0, h1, Sl.none_ τ _ w, fun y hy => by simp at hy⟩
  · have hm : len ≤ m := by rw [h5]; split <;> omega
    obtain ⟨xs, hl, hx⟩ := exists_list (q := fun i y => (∃ cs', τ.R Any w y cs' ∧ ∀ j u, cs'[j]? = some u → w.cell? (a.add (i * τ.k + j)) = some u) ∧ good y) len (fun i hi => by
      obtain ⟨cs', hc, ht'⟩ := h7 i (by omega)
      obtain ⟨y, hy, hg⟩ := hr _ _ _ _ _ _ _ _ ht'
      obtain ⟨_, hcl, hat⟩ := World.cells?_some hc
      refine ⟨y, ⟨cs', hy, fun j u hu => ?_⟩, hg⟩
      have hj : j < P.cellsOf e := by
        have := (List.getElem?_eq_some_iff.1 hu).1
        omega
      have := hat j hj
      rw [Proofs.YtjcklpooaaaglaaGreat.add_of_add, hk] at this
      exact this.trans hu)
    subst hl
    refine ⟨some a, xs, cap, h1, ⟨h3, h4, (fun h => by cases h), fun i y hy => ⟨trivial, (hx i y hy).1⟩⟩, fun y hy => ?_⟩
    obtain ⟨i, hi⟩ := List.getElem?_of_mem hy
    exact (hx i y hi).2
theorem reads_int {e : TypeId} (ht : P.underlying e = some (.int .i64)) {τ : Ty Int} (hR : ∀ w x, τ.R Any w x [.int .i64 x]) : Reads P e τ InI64 := fun _ _ _ _ _ _ _ _ h => by
  obtain ⟨n, h1, _, h3⟩ := DataW.trod_int ht h
  subst h1
  exact ⟨n, hR _ n, in_i64 h3⟩
theorem arg_slice {α : Type} {e t : TypeId} {τ : Ty α} {good : α → Prop} (hr : Reads P e τ good) (hk : P.cellsOf e = τ.k) (ht : P.underlying t = some (.slice e)) {r : Reach} {b0 : Nat} {v : Value} {d : DataW H} {p : List MemPlace} (hv : Value.okWide P w r b0 t v) (h : DataW.Trod enc P w base spare held t v d p) :
    ∃ (A : Option Addr) (xs : List α) (c : Nat), v = .slice A xs.length c ∧ Sl τ Any w A c xs ∧ ∀ y ∈ xs, good y := by
  obtain ⟨a, n, c, rfl⟩ := okWide_slice ht hv
  obtain ⟨fuel, hf⟩ := h
  obtain ⟨A, xs, c', h1, h2⟩ := hr.slice hk ht hf
  simp [Value.cells] at h1
  obtain ⟨rfl, rfl, rfl⟩ := h1
  exact ⟨_, _, _, rfl, h2⟩
theorem arg_struct {α : Type} {t : TypeId} {fs : Array Field} {τ : Ty α} {good : α → Prop} (hr : Reads P t τ good) (hs : P.underlying t = some (.struct fs)) {r : Reach} {b0 : Nat} {v : Value} {d : DataW H} {p : List MemPlace} (hv : Value.okWide P w r b0 t v) (h : DataW.Trod enc P w base spare held t v d p) :
    ∃ (x : α) (cs : List Value), v = .agg cs.toArray ∧ τ.R Any w x cs ∧ good x := by
  obtain ⟨cs, rfl, _⟩ := okWide_struct hs hv
  obtain ⟨fuel, hf⟩ := h
  obtain ⟨x, h1, h2⟩ := hr _ _ _ _ _ _ _ _ hf
  exact ⟨x, cs.toList, by simp, h1, h2⟩
theorem get_ok {α : Type} {xs : List α} {n i : Nat} (h : xs.length = n) (hi : i < n) : ∃ y, xs[i]? = some y := ⟨xs[i]'(by omega), List.getElem?_eq_getElem _⟩
end
theorem len_succ {cs : List Value} {n : Nat} (h : cs.length = n + 1) : ∃ c cs', cs = c :: cs' ∧ cs'.length = n := by
  cases cs with
  | nil => simp at h
  | cons c cs => exact ⟨c, cs, rfl, by simpa using h⟩
theorem len_zero {cs : List Value} (h : cs.length = 0) : cs = [] := List.eq_nil_of_length_eq_zero h
end Go.Proofs.YtjcklpooaaaglaaGreat
set_option linter.all false
namespace Go.Proofs.YtjcklpooaaaglaaGreat
open Go.Shelf
def Tryz.lays189_ren : Go.Shelf.Ren := ⟨fun | 189 => 190 | 125 => 188 | 257 => 203 | 128 => 201 | 129 => 202 | 294 => 209 | 295 => 210 | 296 => 211 | 297 => 212 | 298 => 213 | 299 => 214 | 216 => 215 | 300 => 216 | 301 => 217 | 328 => 219 | 329 => 205 | 330 => 206 | 331 => 220 | 332 => 221 | 215 => 164 | 343 => 222 | n => n, fun | 28 => 51 | 3 => 3 | 46 => 191 | 0 => 0 | 51 => 48 | 53 => 218 | 4 => 4 | 183 => 211 | 182 => 210 | 131 => 109 | 5 => 5 | 9 => 9 | 218 => 220 | 222 => 224 | 228 => 230 | 229 => 118 | n => n, fun | n => n⟩
theorem Tryz.lays189 : Go.Proofs.Lays.n189 Tryz.prog Tryz.lays189_ren := {
  mixed := by kernel_rfl
  f125 := Tryz.func188.trans (congrArg some (by kernel_rfl))
  f128 := Tryz.func201.trans (congrArg some (by kernel_rfl))
  f129 := Tryz.func202.trans (congrArg some (by kernel_rfl))
  f189 := Tryz.func190.trans (congrArg some (by kernel_rfl))
  f215 := Tryz.func164.trans (congrArg some (by kernel_rfl))
  f216 := Tryz.func215.trans (congrArg some (by kernel_rfl))
  f257 := Tryz.func203.trans (congrArg some (by kernel_rfl))
  f294 := Tryz.func209.trans (congrArg some (by kernel_rfl))
  f295 := Tryz.func210.trans (congrArg some (by kernel_rfl))
  f296 := Tryz.func211.trans (congrArg some (by kernel_rfl))
  f297 := Tryz.func212.trans (congrArg some (by kernel_rfl))
  f298 := Tryz.func213.trans (congrArg some (by kernel_rfl))
  f299 := Tryz.func214.trans (congrArg some (by kernel_rfl))
  f300 := Tryz.func216.trans (congrArg some (by kernel_rfl))
  f301 := Tryz.func217.trans (congrArg some (by kernel_rfl))
  f328 := Tryz.func219.trans (congrArg some (by kernel_rfl))
  f329 := Tryz.func205.trans (congrArg some (by kernel_rfl))
  f330 := Tryz.func206.trans (congrArg some (by kernel_rfl))
  f331 := Tryz.func220.trans (congrArg some (by kernel_rfl))
  f332 := Tryz.func221.trans (congrArg some (by kernel_rfl))
  f343 := Tryz.func222.trans (congrArg some (by kernel_rfl))
  t0 := Tryz.underlying0
  a0 := Tryz.isAgg0
  z0 := Tryz.sizeOf0
  v0 := Tryz.zeroValue0
  t3 := Tryz.underlying3
  a3 := Tryz.isAgg3
  z3 := Tryz.sizeOf3
  v3 := Tryz.zeroValue3
  t4 := Tryz.underlying4
  a4 := Tryz.isAgg4
  z4 := Tryz.sizeOf4
  v4 := Tryz.zeroValue4
  t5 := Tryz.underlying5
  a5 := Tryz.isAgg5
  z5 := Tryz.sizeOf5
  v5 := Tryz.zeroValue5
  t9 := Tryz.underlying9
  a9 := Tryz.isAgg9
  z9 := Tryz.sizeOf9
  v9 := Tryz.zeroValue9
  t28 := Tryz.underlying51
  a28 := Tryz.isAgg51
  z28 := Tryz.sizeOf51
  v28 := Tryz.zeroValue51
  t46 := Tryz.underlying191
  a46 := Tryz.isAgg191
  z46 := Tryz.sizeOf191
  v46 := Tryz.zeroValue191
  t51 := Tryz.underlying48
  a51 := Tryz.isAgg48
  z51 := Tryz.sizeOf48
  v51 := Tryz.zeroValue48
  t53 := Tryz.underlying218
  a53 := Tryz.isAgg218
  z53 := Tryz.sizeOf218
  v53 := Tryz.zeroValue218
  t131 := Tryz.underlying109
  a131 := Tryz.isAgg109
  z131 := Tryz.sizeOf109
  v131 := Tryz.zeroValue109
  t182 := Tryz.underlying210
  a182 := Tryz.isAgg210
  z182 := Tryz.sizeOf210
  v182 := Tryz.zeroValue210
  t183 := Tryz.underlying211
  a183 := Tryz.isAgg211
  z183 := Tryz.sizeOf211
  v183 := Tryz.zeroValue211
  t218 := Tryz.underlying220
  a218 := Tryz.isAgg220
  z218 := Tryz.sizeOf220
  v218 := Tryz.zeroValue220
  t222 := Tryz.underlying224
  a222 := Tryz.isAgg224
  z222 := Tryz.sizeOf224
  v222 := Tryz.zeroValue224
  t228 := Tryz.underlying230
  a228 := Tryz.isAgg230
  z228 := Tryz.sizeOf230
  v228 := Tryz.zeroValue230
  t229 := Tryz.underlying118
  a229 := Tryz.isAgg118
  z229 := Tryz.sizeOf118
  v229 := Tryz.zeroValue118 }
def Tryz.laysF6_ren : Go.Shelf.Ren := ⟨fun | 6 => 176 | 15 => 188 | 14 => 187 | 28 => 201 | 29 => 202 | 20 => 193 | 21 => 194 | 22 => 195 | 23 => 196 | 24 => 197 | 25 => 198 | 26 => 199 | 27 => 200 | 46 => 204 | 47 => 205 | 48 => 206 | 49 => 207 | 50 => 208 | 57 => 218 | n => n, fun | 22 => 22 | 24 => 63 | 25 => 202 | 3 => 3 | 39 => 191 | 0 => 0 | 53 => 48 | 55 => 218 | 4 => 4 | 46 => 211 | 45 => 210 | 50 => 109 | 5 => 5 | 9 => 9 | 66 => 220 | 70 => 224 | 76 => 230 | 77 => 118 | n => n, fun | n => n⟩
theorem Tryz.laysF6 : Go.Proofs.SlLaysF0.n6 Tryz.prog Tryz.laysF6_ren := {
  mixed := by kernel_rfl
  f6 := ⟨Tryz.f176.name, by decide, Tryz.func176.trans (congrArg some (by kernel_rfl))⟩
  f14 := ⟨Tryz.f187.name, by decide, Tryz.func187.trans (congrArg some (by kernel_rfl))⟩
  f15 := Tryz.func188.trans (congrArg some (by kernel_rfl))
  f20 := ⟨Tryz.f193.name, by decide, Tryz.func193.trans (congrArg some (by kernel_rfl))⟩
  f21 := ⟨Tryz.f194.name, by decide, Tryz.func194.trans (congrArg some (by kernel_rfl))⟩
  f22 := ⟨Tryz.f195.name, by decide, Tryz.func195.trans (congrArg some (by kernel_rfl))⟩
  f23 := ⟨Tryz.f196.name, by decide, Tryz.func196.trans (congrArg some (by kernel_rfl))⟩
  f24 := ⟨Tryz.f197.name, by decide, Tryz.func197.trans (congrArg some (by kernel_rfl))⟩
  f25 := ⟨Tryz.f198.name, by decide, Tryz.func198.trans (congrArg some (by kernel_rfl))⟩
  f26 := ⟨Tryz.f199.name, by decide, Tryz.func199.trans (congrArg some (by kernel_rfl))⟩
  f27 := ⟨Tryz.f200.name, by decide, Tryz.func200.trans (congrArg some (by kernel_rfl))⟩
  f28 := Tryz.func201.trans (congrArg some (by kernel_rfl))
  f29 := Tryz.func202.trans (congrArg some (by kernel_rfl))
  f46 := ⟨Tryz.f204.name, by decide, Tryz.func204.trans (congrArg some (by kernel_rfl))⟩
  f47 := Tryz.func205.trans (congrArg some (by kernel_rfl))
  f48 := Tryz.func206.trans (congrArg some (by kernel_rfl))
  f49 := ⟨Tryz.f207.name, by decide, Tryz.func207.trans (congrArg some (by kernel_rfl))⟩
  f50 := ⟨Tryz.f208.name, by decide, Tryz.func208.trans (congrArg some (by kernel_rfl))⟩
  f57 := ⟨Tryz.f218.name, by decide, Tryz.func218.trans (congrArg some (by kernel_rfl))⟩
  t0 := Tryz.underlying0
  a0 := Tryz.isAgg0
  z0 := Tryz.sizeOf0
  v0 := Tryz.zeroValue0
  t3 := Tryz.underlying3
  a3 := Tryz.isAgg3
  z3 := Tryz.sizeOf3
  v3 := Tryz.zeroValue3
  t4 := Tryz.underlying4
  a4 := Tryz.isAgg4
  z4 := Tryz.sizeOf4
  v4 := Tryz.zeroValue4
  t5 := Tryz.underlying5
  a5 := Tryz.isAgg5
  z5 := Tryz.sizeOf5
  v5 := Tryz.zeroValue5
  t9 := Tryz.underlying9
  a9 := Tryz.isAgg9
  z9 := Tryz.sizeOf9
  v9 := Tryz.zeroValue9
  t22 := Tryz.underlying22
  a22 := Tryz.isAgg22
  z22 := Tryz.sizeOf22
  v22 := Tryz.zeroValue22
  t25 := Tryz.underlying202
  a25 := Tryz.isAgg202
  z25 := Tryz.sizeOf202
  v25 := Tryz.zeroValue202
  t39 := Tryz.underlying191
  a39 := Tryz.isAgg191
  z39 := Tryz.sizeOf191
  v39 := Tryz.zeroValue191
  t45 := Tryz.underlying210
  a45 := Tryz.isAgg210
  z45 := Tryz.sizeOf210
  v45 := Tryz.zeroValue210
  t46 := Tryz.underlying211
  a46 := Tryz.isAgg211
  z46 := Tryz.sizeOf211
  v46 := Tryz.zeroValue211
  t50 := Tryz.underlying109
  a50 := Tryz.isAgg109
  z50 := Tryz.sizeOf109
  v50 := Tryz.zeroValue109
  t53 := Tryz.underlying48
  a53 := Tryz.isAgg48
  z53 := Tryz.sizeOf48
  v53 := Tryz.zeroValue48
  t55 := Tryz.underlying218
  a55 := Tryz.isAgg218
  z55 := Tryz.sizeOf218
  v55 := Tryz.zeroValue218
  t66 := Tryz.underlying220
  a66 := Tryz.isAgg220
  z66 := Tryz.sizeOf220
  v66 := Tryz.zeroValue220
  t70 := Tryz.underlying224
  a70 := Tryz.isAgg224
  z70 := Tryz.sizeOf224
  v70 := Tryz.zeroValue224
  t76 := Tryz.underlying230
  a76 := Tryz.isAgg230
  z76 := Tryz.sizeOf230
  v76 := Tryz.zeroValue230
  t77 := Tryz.underlying118
  a77 := Tryz.isAgg118
  z77 := Tryz.sizeOf118
  v77 := Tryz.zeroValue118 }
end Go.Proofs.YtjcklpooaaaglaaGreat
set_option maxRecDepth 4000
set_option linter.all false
namespace Go.Proofs.YtjcklpooaaaglaaGreat
open Go.RowKit
theorem int_one (x : Int) : ∀ u ∈ [Value.int .i64 x], u.oneCell' = true := by intro u hu; simp only [List.mem_cons, List.not_mem_nil, or_false] at hu; rw [hu]; rfl
def tInt : Ty Int := Ty.flat 1 (fun x => [.int .i64 x]) (by decide) (fun _ => rfl) int_one
instance : Flat tInt := ⟨fun h => h⟩

theorem filter_snoc {α : Type} {p : α → Bool} {l : List α} {k : Nat} {x : α} (hx : l[k]? = some x) : (l.take (k + 1)).filter p = (l.take k).filter p ++ (if p x = true then [x] else []) := by
  rw [take_snoc hx, List.filter_append]; simp only [List.filter_cons, List.filter_nil]
theorem cl_164 : Callable Tryz.prog 164 := fun _ _ => by kernel_rfl
theorem sz_3 : Size Tryz.prog 3 1 := fun _ => by kernel_rfl
theorem na_3 : NotAgg Tryz.prog 3 := fun _ => by kernel_rfl
theorem isNaN_ok {S0 : Nat → Prop} (w : World) (x : Int) :
    Rets Tryz.prog 164 #[.int .i64 x] w fun v w' => v = .bool false ∧ Hp w S0 w' [] := by
 refine WP.enter Tryz.func164 rfl Tryz.ntmps164 rfl ?_
 have H0 := Hp.init w S0
 refine rg <| as_ rfl <| dn <| rg <| mv rfl <| mv rfl <| ev (Ev.neq rfl rfl) <| as_ rfl <| dn ?_
 refine WP.ret (Pst.body_ret rfl rfl rfl ?_)
 have hq1 : ((!decide (x = x)) : Bool) = false := by simp
 exact ⟨by rw [hq1] <;> rfl, H0⟩

theorem Compare_ok {S0 : Nat → Prop} (w : World) (x : Int) (y : Int) :
    Rets Tryz.prog 113 #[.int .i64 x, .int .i64 y] w fun v w' => v = .int .i64 (cmpI x y) ∧ Hp w S0 w' [] := by
 refine WP.enter Tryz.func113 rfl Tryz.ntmps113 rfl ?_
 have H0 := Hp.init w S0
 refine rg <| as_ rfl <| dn <| rg <| mv rfl <| WL.call rfl rfl rfl cl_164 (isNaN_ok (S0 := Any) _ x) rfl ?_
 rintro _ w1 ⟨rfl, h1⟩
 have K1 := H0.c0 h1
 refine as_ rfl <| dn <| rg <| mv rfl <| WL.call rfl rfl rfl cl_164 (isNaN_ok (S0 := Any) _ y) rfl ?_
 rintro _ w2 ⟨rfl, h2⟩
 have K2 := K1.c0 h2
 refine as_ rfl <| dn <| WP.seq <| rg <| mv rfl <| dn ?_
 refine WP.cond_end rfl (fun _h => absurd _h (by decide)) (fun _h => ?_)
 refine WP.skip (Pst.norm ?_)
 refine WP.seq <| rg <| mv rfl <| dn ?_
 refine WP.cond_end rfl (fun _h => absurd _h (by decide)) (fun _h => ?_)
 refine WP.skip (Pst.norm ?_)
 refine WP.seq <| rg <| mv rfl <| mv rfl <| ev (Ev.lss rfl rfl) <| dn ?_
 refine WP.cond_end rfl (fun hc16 => ?_) (fun hc16 => ?_)
 ·
  replace hc16 := of_decide_eq_true hc16
  refine rg <| as_ rfl <| dn ?_
  refine WP.ret (Pst.then_ret (Pst.body_ret rfl rfl rfl ?_))
  have hq1 : ((-1) : Int) = (cmpI x y) := by unfold cmpI; rw [if_pos hc16]
  exact ⟨by rw [← hq1] <;> rfl, K2⟩
 replace hc16 := of_decide_eq_false hc16
 refine WP.skip (Pst.norm ?_)
 refine WP.seq <| rg <| mv rfl <| mv rfl <| ev (Ev.gtr rfl rfl) <| dn ?_
 refine WP.cond_end rfl (fun hc19 => ?_) (fun hc19 => ?_)
 ·
  replace hc19 := of_decide_eq_true hc19
  refine rg <| as_ rfl <| dn ?_
  refine WP.ret (Pst.then_ret (Pst.body_ret rfl rfl rfl ?_))
  have hq2 : (1 : Int) = (cmpI x y) := by unfold cmpI; rw [if_neg hc16, if_pos hc19]
  exact ⟨by rw [← hq2] <;> rfl, K2⟩
 replace hc19 := of_decide_eq_false hc19
 refine WP.skip (Pst.norm ?_)
 refine rg <| as_ rfl <| dn ?_
 refine WP.ret (Pst.body_ret rfl rfl rfl ?_)
 have hq3 : (0 : Int) = (cmpI x y) := by unfold cmpI; rw [if_neg hc16, if_neg hc19]
 exact ⟨by rw [← hq3] <;> rfl, K2⟩

end Go.Proofs.YtjcklpooaaaglaaGreat
