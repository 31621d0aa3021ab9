/- Signs; functions against nil; maps of a few entries that the call has made. -/
import Derived.Test.YtlnjmkmhmbijmaaGreatM7
import Derived.MapKept
set_option linter.all false
namespace Go.Proofs.YtlnjmkmhmbijmaaGreat
open Go.RowKit

instance {g : Nat} {o : Obj} : FlatR (rObj g o) := ⟨fun h => h⟩
section
variable {P : Program} {n : Cx} {l : List (Nat × Value)} {b w : World} {S : Nat → Prop} {rs rest : List Res} {Q : Exit → Act → World → Prop} {K : Act → World → Prop} {ops : Array Oper} {os : List Oper} {ty : TypeId} {pos : String} {aft : Array Edge} {d : Nat}
theorem Ev.neg {t : TypeId} {x : Operand} {a : Int} (hx : evl l x = some (.int .i64 a)) (h : I64 (-a)) : Ev P n l w (.unOp .neg t x) (.int .i64 (-a)) := fun o a' w' ho ha _ => by
  unfold execOp; rw [ho]
  have h2 : (Op.unary .neg (.int .i64 a)).run P w' = .ok (.int .i64 (-a)) w' := by
    have h3 : IntKind.i64.wrap (0 - a) = -a := by rw [Int.zero_sub]; exact h.wrap
    have h4 : (Op.unary .neg (.int .i64 a)).run P w' = .ok (.int .i64 (IntKind.i64.wrap (0 - a))) w' := rfl
    rw [h4, h3]
  simp [ha.eval hx, h2]
theorem run_eqIn_fn {w : World} (dd : Nat) {t : TypeId} {f : Fn} {as cs : Array Value} {ps rs' : Array TypeId} {vr : Bool} (hu : P.underlying t = some (.func ps rs' vr)) : (Op.equalIn (dd + 1) t (.func f as cs) .nilFunc).run P w = .ok false w := by
  simp [Op.equalIn, run_underlying hu]
theorem run_eqIn_nf {w : World} (dd : Nat) {t : TypeId} {ps rs' : Array TypeId} {vr : Bool} (hu : P.underlying t = some (.func ps rs' vr)) : (Op.equalIn (dd + 1) t .nilFunc .nilFunc).run P w = .ok true w := by
  simp [Op.equalIn, run_underlying hu]
theorem Ev.nefn {t ty : TypeId} {x : Operand} {f : Fn} {as cs : Array Value} {ps rs' : Array TypeId} {vr : Bool} (hu : P.underlying t = some (.func ps rs' vr)) (hx : evl l x = some (.func f as cs)) : Ev P n l w (.binOp .neq t x (.const .nilFunc) ty) (.bool true) :=
  Ev.binop hx rfl (eqGuard_at_func ..) fun w => by
    have h : (Op.equal t (.func f as cs) .nilFunc).run P w = .ok false w := run_eqIn_fn 9999 hu
    simp only [binOp]
    simp [h]
theorem Ev.nenf {t ty : TypeId} {x : Operand} {ps rs' : Array TypeId} {vr : Bool} (hu : P.underlying t = some (.func ps rs' vr)) (hx : evl l x = some .nilFunc) : Ev P n l w (.binOp .neq t x (.const .nilFunc) ty) (.bool false) :=
  Ev.binop hx rfl (eqGuard_at_nilFunc ..) fun w => by
    have h : (Op.equal t .nilFunc .nilFunc).run P w = .ok true w := run_eqIn_nf 9999 hu
    simp only [binOp]
    simp [h]
/-- 'make(map[K]V)' -/
theorem mkm {t : TypeId} (H : Hp b S w rs) (hd : Nat.blt d n.size = true) (k : ∀ g w', Hp b S w' (rObj g (.map #[] 0) :: rs) → WL P n ops Q K os ((d, .map (some g)) :: l) w') : WL P n ops Q K (⟨some d, .makeMap t none, ty, pos, aft, none⟩ :: os) l w :=
  WL.val (v := .map (some w.heap.size)) (fun a _ => wanted_none a) rfl hd (R := fun w2 => w2 = w.alloc (.map #[] 0)) (fun a ha => ⟨_, rfl, rfl⟩) fun w2 e => by
    subst e; exact k _ _ (H.newObj (.map #[] 0))
theorem run_insert {t kt et : TypeId} {z : Int} {g clk : Nat} {es : Array MapEntry} {v : Value} (hm : P.underlying t = some (.map kt et)) (hk : P.underlying kt = some (.int .i64)) (hb : w.heap[g]? = some (.map es clk)) (hf : Instr.findNow (.int .i64) (.int .i64 z) es.toList 0 = some none) :
    (Instr.mapUpdate t (.map (some g)) (.int .i64 z) v).run P w = .ok () (w.putObj g (.map (es.push ⟨.int .i64 z, v, clk⟩) (clk + 1))) := by
  have h1 : (Instr.checkKey false 10000 kt (.int .i64 z)).run P w = .ok () w := MapKept.run_checkKey (n := 9999) (k := .int .i64 z) hk (by simp [MapKept.IsKey]) false
  have h2 : (Instr.findKey kt (.int .i64 z) es.toList).run P w = .ok none w := MapKept.run_findKey hk hf
  unfold Instr.mapUpdate
  simp only [Sem.run_bind, run_underlying hm, Result.andThen_ok, MapKept.run_getObj_map hb, h1, h2, MapKept.run_setObj_map _ hb]
  rfl
theorem run_look {t kt et : TypeId} {z : Int} {g clk : Nat} {es : Array MapEntry} {v : Value} {i : Nat} (hm : P.underlying t = some (.map kt et)) (hk : P.underlying kt = some (.int .i64)) (hb : w.heap[g]? = some (.map es clk)) (hf : Instr.findNow (.int .i64) (.int .i64 z) es.toList 0 = some (some (i, v))) :
    (Instr.lookup t (.map (some g)) (.int .i64 z) false).run P w = .ok v w := by
  have h1 : ∀ e, (Instr.checkKey e 10000 kt (.int .i64 z)).run P w = .ok () w := fun e => MapKept.run_checkKey (n := 9999) (k := .int .i64 z) hk (by simp [MapKept.IsKey]) e
  have h2 : (Instr.findKey kt (.int .i64 z) es.toList).run P w = .ok (some (i, v)) w := MapKept.run_findKey hk hf
  unfold Instr.lookup
  simp only [Sem.run_bind, run_underlying hm, Result.andThen_ok, MapKept.run_getObj_map hb, h1, h2, Sem.run_pure]
  rfl
theorem run_look0 {t kt et : TypeId} {z : Int} {g clk : Nat} {es : Array MapEntry} {v : Value} (hm : P.underlying t = some (.map kt et)) (hk : P.underlying kt = some (.int .i64)) (hz : (zeroValue et).run P w = .ok v w) (hb : w.heap[g]? = some (.map es clk)) (hf : Instr.findNow (.int .i64) (.int .i64 z) es.toList 0 = some none) :
    (Instr.lookup t (.map (some g)) (.int .i64 z) false).run P w = .ok v w := by
  have h1 : ∀ e, (Instr.checkKey e 10000 kt (.int .i64 z)).run P w = .ok () w := fun e => MapKept.run_checkKey (n := 9999) (k := .int .i64 z) hk (by simp [MapKept.IsKey]) e
  have h2 : (Instr.findKey kt (.int .i64 z) es.toList).run P w = .ok (none) w := MapKept.run_findKey hk hf
  unfold Instr.lookup
  simp only [Sem.run_bind, run_underlying hm, Result.andThen_ok, MapKept.run_getObj_map hb, h1, h2, Sem.run_pure, hz]
  rfl
/-- an entry that was not there -/
theorem ins {t kt et : TypeId} {m ky vy : Operand} {z : Int} {g clk : Nat} {es : Array MapEntry} {v : Value} (H : Hp b S w rs) (s : Sel rs (rObj g (.map es clk)) rest) (hx : evl l m = some (.map (some g))) (hkey : evl l ky = some (.int .i64 z)) (hv : evl l vy = some v)
    (hm : P.underlying t = some (.map kt et)) (hk : P.underlying kt = some (.int .i64)) (hf : Instr.findNow (.int .i64) (.int .i64 z) es.toList 0 = some none)
    (k : ∀ w', Hp b S w' (rObj g (.map (es.push ⟨.int .i64 z, v, clk⟩) (clk + 1)) :: rest) → WL P n ops Q K os l w') : WL P n ops Q K (⟨none, .insert t m ky vy, ty, pos, aft, none⟩ :: os) l w :=
  WL.unit (fun a _ => wanted_none a) rfl (R := fun w' => w' = w.putObj g (.map (es.push ⟨.int .i64 z, v, clk⟩) (clk + 1))) (fun a ha => ⟨_, by
    unfold execOp; simp [ha.eval hx, ha.eval hkey, ha.eval hv, run_insert hm hk (H.obj s) hf], rfl⟩) fun w' e => by
    subst e; exact k _ (H.putObj s _)
theorem Ev.look {t kt et : TypeId} {m ky : Operand} {z : Int} {g clk i : Nat} {es : Array MapEntry} {v : Value} (H : Hp b S w rs) (s : Sel rs (rObj g (.map es clk)) rest) (hx : evl l m = some (.map (some g))) (hkey : evl l ky = some (.int .i64 z))
    (hm : P.underlying t = some (.map kt et)) (hk : P.underlying kt = some (.int .i64)) (hf : Instr.findNow (.int .i64) (.int .i64 z) es.toList 0 = some (some (i, v))) : Ev P n l w (.lookup t m ky false) v := fun o a w' ho ha ex => by
  have hb : w'.heap[g]? = some (.map es clk) := (ex.block g (Array.getElem?_eq_some_iff.1 (H.obj s)).1).trans (H.obj s)
  unfold execOp; rw [ho]; simp [ha.eval hx, ha.eval hkey, run_look hm hk hb hf]
theorem Ev.look0 {t kt et : TypeId} {m ky : Operand} {z : Int} {g clk : Nat} {es : Array MapEntry} {v : Value} (H : Hp b S w rs) (s : Sel rs (rObj g (.map es clk)) rest) (hx : evl l m = some (.map (some g))) (hkey : evl l ky = some (.int .i64 z))
    (hm : P.underlying t = some (.map kt et)) (hk : P.underlying kt = some (.int .i64)) (hz : ∀ w, (zeroValue et).run P w = .ok v w) (hf : Instr.findNow (.int .i64) (.int .i64 z) es.toList 0 = some none) : Ev P n l w (.lookup t m ky false) v := fun o a w' ho ha ex => by
  have hb : w'.heap[g]? = some (.map es clk) := (ex.block g (Array.getElem?_eq_some_iff.1 (H.obj s)).1).trans (H.obj s)
  unfold execOp; rw [ho]; simp [ha.eval hx, ha.eval hkey, run_look0 hm hk (hz w') hb hf]
end
end Go.Proofs.YtlnjmkmhmbijmaaGreat
