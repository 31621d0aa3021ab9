/- Division by two; an element of an array that is no variable. -/
import Derived.Test.YtlnjmkmhmbijmaaGreatM11
set_option linter.all false
namespace Go.Proofs.YtlnjmkmhmbijmaaGreat
open Go.RowKit
section
variable {P : Program} {n : Cx} {l : List (Nat × Value)} {w : World} {t ty : TypeId} {x y : Operand}
theorem Ev.quo {a c : Int} (hx : evl l x = some (.int .i64 a)) (hy : evl l y = some (.int .i64 c)) (hc : c ≠ 0) (h : I64 (a.tdiv c)) : Ev P n l w (.binOp .quo t x y ty) (.int .i64 (a.tdiv c)) :=
  Ev.binop hx hy (eqGuard_at_int ..) fun w => by
    have hw := h.wrap
    simp [binOp, Op.intDiv, hc, hw]
theorem Ev.idxA {e : TypeId} {len i : Nat} {cs : List Value} {v : Value} (hu : P.underlying t = some (.array len e)) (hs : Size P e 1) (hn : NotAgg P e) (hi : i < len) (hx : evl l x = some (.agg cs.toArray)) (hy : evl l y = some (.int .i64 (i : Int))) (hv : cs[i]? = some v) :
    Ev P n l w (.index t x y) v := fun o a w' ho ha _ => by
  unfold execOp; rw [ho]
  have h1 : (Instr.index t (.agg cs.toArray) (.int .i64 (i : Int))).run P w' = .ok v w' := by
    unfold Instr.index
    simp only [asIntOf, Sem.run_bind, Sem.run_pure, run_underlying hu, Result.andThen_ok]
    rw [if_pos ⟨by omega, by omega⟩]
    simp only [part, asAgg, Sem.run_bind, Sem.run_pure, Result.andThen_ok, hn w', hs w']
    simp [hv]
  simp [ha.eval hx, ha.eval hy, h1]
end
theorem half (i : Nat) : ((i : Int) - 1).tdiv 2 = (((i - 1) / 2 : Nat) : Int) := by
  cases i with
  | zero => rfl
  | succ i =>
    have e : (((i + 1 : Nat) : Int) - 1) = (i : Int) := by omega
    rw [e, Nat.add_sub_cancel]; rfl
end Go.Proofs.YtlnjmkmhmbijmaaGreat
