/- Rules for the bits of numbers; an array behind a pointer; a row of zeros of a known length; loops round by round; tests whose outcome is known. -/
import Derived.Test.YtlnjmkmhmbijmaaGreatM13
import Derived.Laws.MathBits
import Derived.LoopNIn
set_option linter.all false
namespace Go.Proofs.YtlnjmkmhmbijmaaGreat
open Go.RowKit
section
variable {P : Program} {n : Cx} {l : List (Nat × Value)} {w : World} {t ty d e : TypeId} {x y : Operand}
theorem bvI {k : Nat} (a : BitVec k) : BitVec.ofInt k (a.toNat : Int) = a := by rw [BitVec.ofInt_natCast]; simp
theorem w32 (a : BitVec 32) : IntKind.u32.wrap (a.toNat : Int) = (a.toNat : Int) := by rw [IntKind.wrap_u32]; have := a.isLt; omega
theorem w8 (a : BitVec 8) : IntKind.u8.wrap (a.toNat : Int) = (a.toNat : Int) := by rw [IntKind.wrap_u8]; have := a.isLt; omega
theorem Ev.xor32 {a b : BitVec 32} (hx : evl l x = some (.int .u32 (a.toNat : Int))) (hy : evl l y = some (.int .u32 (b.toNat : Int))) : Ev P n l w (.binOp .xor t x y ty) (.int .u32 ((a ^^^ b).toNat : Int)) :=
  Ev.binop hx hy (eqGuard_at_int ..) fun w => by
    have h : (binOp .xor t (.int .u32 (a.toNat : Int)) (.int .u32 (b.toNat : Int))).run P w = .ok (.int .u32 (IntKind.u32.wrap (((BitVec.ofInt 32 (a.toNat : Int) ^^^ BitVec.ofInt 32 (b.toNat : Int)).toNat : Nat) : Int))) w := rfl
    rw [h, bvI, bvI, w32]
theorem Ev.and32 {a b : BitVec 32} (hx : evl l x = some (.int .u32 (a.toNat : Int))) (hy : evl l y = some (.int .u32 (b.toNat : Int))) : Ev P n l w (.binOp .and t x y ty) (.int .u32 ((a &&& b).toNat : Int)) :=
  Ev.binop hx hy (eqGuard_at_int ..) fun w => by
    have h : (binOp .and t (.int .u32 (a.toNat : Int)) (.int .u32 (b.toNat : Int))).run P w = .ok (.int .u32 (IntKind.u32.wrap (((BitVec.ofInt 32 (a.toNat : Int) &&& BitVec.ofInt 32 (b.toNat : Int)).toNat : Nat) : Int))) w := rfl
    rw [h, bvI, bvI, w32]
theorem Ev.xor8 {a b : BitVec 8} (hx : evl l x = some (.int .u8 (a.toNat : Int))) (hy : evl l y = some (.int .u8 (b.toNat : Int))) : Ev P n l w (.binOp .xor t x y ty) (.int .u8 ((a ^^^ b).toNat : Int)) :=
  Ev.binop hx hy (eqGuard_at_int ..) fun w => by
    have h : (binOp .xor t (.int .u8 (a.toNat : Int)) (.int .u8 (b.toNat : Int))).run P w = .ok (.int .u8 (IntKind.u8.wrap (((BitVec.ofInt 8 (a.toNat : Int) ^^^ BitVec.ofInt 8 (b.toNat : Int)).toNat : Nat) : Int))) w := rfl
    rw [h, bvI, bvI, w8]
theorem Ev.not32 {a : BitVec 32} (hx : evl l x = some (.int .u32 (a.toNat : Int))) : Ev P n l w (.unOp .xor t x) (.int .u32 ((~~~ a).toNat : Int)) := fun o a' w' ho ha _ => by
  unfold execOp; rw [ho]
  have h : (Op.unary .xor (.int .u32 (a.toNat : Int))).run P w' = .ok (.int .u32 (IntKind.u32.wrap (((BitVec.ofInt 32 IntKind.u32.max ^^^ BitVec.ofInt 32 (a.toNat : Int)).toNat : Nat) : Int))) w' := rfl
  have e : BitVec.ofInt 32 IntKind.u32.max = BitVec.allOnes 32 := by decide
  rw [bvI, e, BitVec.allOnes_xor, w32] at h
  simp [ha.eval hx, h]
theorem Ev.neg32 {a : BitVec 32} (hx : evl l x = some (.int .u32 (a.toNat : Int))) : Ev P n l w (.unOp .neg t x) (.int .u32 ((-a).toNat : Int)) := fun o a' w' ho ha _ => by
  unfold execOp; rw [ho]
  have h : (Op.unary .neg (.int .u32 (a.toNat : Int))).run P w' = .ok (.int .u32 (IntKind.u32.wrap (0 - (a.toNat : Int)))) w' := rfl
  have e : IntKind.u32.wrap (0 - (a.toNat : Int)) = ((-a).toNat : Int) := by
    rw [IntKind.wrap_u32, BitVec.toNat_neg]; have := a.isLt; omega
  rw [e] at h
  simp [ha.eval hx, h]
theorem Ev.shr32 {a : BitVec 32} {k : IntKind} {c : Nat} (hx : evl l x = some (.int .u32 (a.toNat : Int))) (hy : evl l y = some (.int k (c : Int))) (hc : c ≤ 32) : Ev P n l w (.binOp .shr t x y ty) (.int .u32 ((a >>> c).toNat : Int)) :=
  Ev.binop hx hy (eqGuard_at_int ..) fun w => by
    have h : (binOp .shr t (.int .u32 (a.toNat : Int)) (.int k (c : Int))) = Op.shift .shr .u32 (a.toNat : Int) k (c : Int) := rfl
    rw [h, shift_shr_any _ _ _ _ (by omega), BitVec.toNat_ushiftRight, Nat.shiftRight_eq_div_pow]
    have e : min (c : Int).toNat IntKind.u32.bits = c := by show min (c : Int).toNat 32 = c; omega
    rw [e]; norm_cast
theorem Ev.shl8 {a : BitVec 8} {k : IntKind} {c : Nat} (hx : evl l x = some (.int .u8 (a.toNat : Int))) (hy : evl l y = some (.int k (c : Int))) (hc : c ≤ 8) : Ev P n l w (.binOp .shl t x y ty) (.int .u8 ((a <<< c).toNat : Int)) :=
  Ev.binop hx hy (eqGuard_at_int ..) fun w => by
    have h : (binOp .shl t (.int .u8 (a.toNat : Int)) (.int k (c : Int))) = Op.shift .shl .u8 (a.toNat : Int) k (c : Int) := rfl
    have e : min (c : Int).toNat IntKind.u8.bits = c := by show min (c : Int).toNat 8 = c; omega
    have e2 : ((a.toNat : Int) * 2 ^ c) % 256 = ((a.toNat * 2 ^ c % 2 ^ 8 : Nat) : Int) := by rw [Int.natCast_emod, Int.natCast_mul, Int.natCast_pow]; rfl
    rw [h, shift_shl_any _ _ _ _ (by omega), e, IntKind.wrap_u8, BitVec.toNat_shiftLeft, Nat.shiftLeft_eq, e2]; rfl
theorem Ev.conv8_32 {a : BitVec 8} (hs : (P.underlying t).isSome = true) (hd : P.underlying d = some (.int (P.intKind d))) (hk : P.intKind d = .u32) (hx : evl l x = some (.int .u8 (a.toNat : Int))) : Ev P n l w (.convert t d x) (.int .u32 ((a.setWidth 32).toNat : Int)) := by
  have := Ev.convInt (P := P) (n := n) (w := w) hs hd hk hx
  rwa [show IntKind.u32.wrap (a.toNat : Int) = ((a.setWidth 32).toNat : Int) from by rw [IntKind.wrap_u32, BitVec.toNat_setWidth]; have := a.isLt; omega] at this
theorem Ev.conv32_8 {a : BitVec 32} (hs : (P.underlying t).isSome = true) (hd : P.underlying d = some (.int (P.intKind d))) (hk : P.intKind d = .u8) (hx : evl l x = some (.int .u32 (a.toNat : Int))) : Ev P n l w (.convert t d x) (.int .u8 ((a.setWidth 8).toNat : Int)) := by
  have := Ev.convInt (P := P) (n := n) (w := w) hs hd hk hx
  rwa [show IntKind.u8.wrap (a.toNat : Int) = ((a.setWidth 8).toNat : Int) from by rw [IntKind.wrap_u8, BitVec.toNat_setWidth]; omega] at this
theorem Ev.conv_8 {k : IntKind} {m : Nat} (hs : (P.underlying t).isSome = true) (hd : P.underlying d = some (.int (P.intKind d))) (hk : P.intKind d = .u8) (hx : evl l x = some (.int k (m : Int))) : Ev P n l w (.convert t d x) (.int .u8 ((BitVec.ofNat 8 m).toNat : Int)) := by
  have := Ev.convInt (P := P) (n := n) (w := w) hs hd hk hx
  rwa [show IntKind.u8.wrap (m : Int) = ((BitVec.ofNat 8 m).toNat : Int) from by rw [IntKind.wrap_u8, BitVec.toNat_ofNat]; omega] at this
theorem Ev.conv_32 {k : IntKind} {m : Nat} (hs : (P.underlying t).isSome = true) (hd : P.underlying d = some (.int (P.intKind d))) (hk : P.intKind d = .u32) (hx : evl l x = some (.int k (m : Int))) : Ev P n l w (.convert t d x) (.int .u32 ((BitVec.ofNat 32 m).toNat : Int)) := by
  have := Ev.convInt (P := P) (n := n) (w := w) hs hd hk hx
  rwa [show IntKind.u32.wrap (m : Int) = ((BitVec.ofNat 32 m).toNat : Int) from by rw [IntKind.wrap_u32, BitVec.toNat_ofNat]; omega] at this
theorem Ev.shrI {m c : Nat} {k : IntKind} (hx : evl l x = some (.int .i64 (m : Int))) (hy : evl l y = some (.int k (c : Int))) (hc : c ≤ 64) : Ev P n l w (.binOp .shr t x y ty) (.int .i64 ((m / 2 ^ c : Nat) : Int)) :=
  Ev.binop hx hy (eqGuard_at_int ..) fun w => by
    have h : (binOp .shr t (.int .i64 (m : Int)) (.int k (c : Int))) = Op.shift .shr .i64 (m : Int) k (c : Int) := rfl
    have e : min (c : Int).toNat IntKind.i64.bits = c := by show min (c : Int).toNat 64 = c; omega
    rw [h, shift_shr_any _ _ _ _ (by omega), e]; norm_cast
theorem Ev.shrZ {z : Int} {c : Nat} {k : IntKind} (hx : evl l x = some (.int .i64 z)) (hy : evl l y = some (.int k (c : Int))) (hc : c ≤ 64) : Ev P n l w (.binOp .shr t x y ty) (.int .i64 (z / 2 ^ c)) :=
  Ev.binop hx hy (eqGuard_at_int ..) fun w => by
    have h : (binOp .shr t (.int .i64 z) (.int k (c : Int))) = Op.shift .shr .i64 z k (c : Int) := rfl
    have e : min (c : Int).toNat IntKind.i64.bits = c := by show min (c : Int).toNat 64 = c; omega
    rw [h, shift_shr_any _ _ _ _ (by omega), e]; rfl
theorem Ev.shlI {m c : Nat} {k : IntKind} (hx : evl l x = some (.int .i64 (m : Int))) (hy : evl l y = some (.int k (c : Int))) (hc : c ≤ 64) (hm : m * 2 ^ c ≤ 9223372036854775807) : Ev P n l w (.binOp .shl t x y ty) (.int .i64 ((m * 2 ^ c : Nat) : Int)) :=
  Ev.binop hx hy (eqGuard_at_int ..) fun w => by
    have h : (binOp .shl t (.int .i64 (m : Int)) (.int k (c : Int))) = Op.shift .shl .i64 (m : Int) k (c : Int) := rfl
    have e : min (c : Int).toNat IntKind.i64.bits = c := by show min (c : Int).toNat 64 = c; omega
    have e2 : (m : Int) * 2 ^ c = ((m * 2 ^ c : Nat) : Int) := by norm_cast
    rw [h, shift_shl_any _ _ _ _ (by omega), e, e2, (I64.mk (by omega) (by omega)).wrap]; rfl
/-- a byte put behind a number -/
theorem Ev.orI {m c : Nat} (hx : evl l x = some (.int .i64 ((m * 2 ^ 8 : Nat) : Int))) (hy : evl l y = some (.int .i64 (c : Int))) (hc : c < 256) (hm : m * 256 + c ≤ 9223372036854775807) : Ev P n l w (.binOp .or t x y ty) (.int .i64 ((m * 256 + c : Nat) : Int)) :=
  Ev.binop hx hy (eqGuard_at_int ..) fun w => by
    have h : (binOp .or t (.int .i64 ((m * 2 ^ 8 : Nat) : Int)) (.int .i64 (c : Int))).run P w = .ok (.int .i64 (IntKind.i64.wrap (((BitVec.ofInt 64 ((m * 2 ^ 8 : Nat) : Int) ||| BitVec.ofInt 64 (c : Int)).toNat : Nat) : Int))) w := rfl
    have e : (BitVec.ofInt 64 ((m * 2 ^ 8 : Nat) : Int) ||| BitVec.ofInt 64 (c : Int)).toNat = m * 256 + c := by
      rw [BitVec.ofInt_natCast, BitVec.ofInt_natCast, BitVec.toNat_or, BitVec.toNat_ofNat, BitVec.toNat_ofNat, Nat.mod_eq_of_lt (by omega), Nat.mod_eq_of_lt (by omega), Nat.mul_comm m (2 ^ 8), ← Nat.two_pow_add_eq_or_of_lt (by omega)]
    rw [h, e, (I64.mk (by omega) (by omega)).wrap]
theorem Ev.cut4 {α : Type} {k : Nat} {A : Option Addr} {c lo hi : Nat} {xs : List α} {kl kh km : IntKind} {zl zh zm : Int} {xx yl yh ym : Operand} (hu : P.underlying t = some (.slice e)) (hs : Size P e k) (hx : evl l xx = some (.slice A xs.length c)) (hl : evl l yl = some (.int kl zl)) (hh : evl l yh = some (.int kh zh)) (hm : evl l ym = some (.int km zm))
    (h1 : zl = (lo : Int)) (h2 : zh = (hi : Int)) (h2' : zm = (hi : Int)) (h3 : lo ≤ hi) (h4 : hi ≤ xs.length) (h5 : xs.length ≤ c) : Ev P n l w (.slice t xx (some yl) (some yh) (some ym)) (.slice (cutA A hi lo k) ((xs.take hi).drop lo).length (hi - lo)) := fun o a w' ho ha _ => by
  have hlen : ((xs.take hi).drop lo).length = hi - lo := by simp only [List.length_drop, List.length_take]; omega
  unfold execOp; rw [ho]
  have h6 : (Instr.sliceAt t (.slice A xs.length c) (some (.int kl zl)) (some (.int kh zh)) (some (.int km zm))).run P w' = .ok (.slice (cutA A hi lo k) (hi - lo) (hi - lo)) w' := by
    rw [run_sliceAt_slice w' t _ _ _ _ (elem_of hu), run_slice_lhm w' t A xs.length c (elem_of hu) kl kh km zl zh zm (by omega) (by omega) (by omega) (by omega), elem_is hu, hs w', h1, h2, h2']
    simp [sliced, cutA]
  simp [ha.eval hx, ha.eval hl, ha.eval hh, ha.eval hm, h6, hlen]
theorem Sl.capTo {α : Type} {τ : Ty α} {S : Nat → Prop} {A : Option Addr} {c m : Nat} {xs : List α} (h : Sl τ S w A c xs) (hm : m ≤ xs.length) : Sl τ S w A m (xs.take m) := by
  have h1 := h.cutTo hm
  have hc := h.cap
  exact ⟨by rw [List.length_take]; omega, by have := h.max; omega, fun hA => by have := h.nil hA; omega, h1.rows⟩
theorem Sl.cut4 {α : Type} {τ : Ty α} {S : Nat → Prop} {A : Option Addr} {c lo hi : Nat} {xs : List α} (h : Sl τ S w A c xs) (h1 : lo ≤ hi) (h2 : hi ≤ xs.length) : Sl τ S w (cutA A hi lo τ.k) (hi - lo) ((xs.take hi).drop lo) := by
  have := (h.capTo h2).cut (lo := lo) (hi := hi) h1 (by rw [List.length_take]; omega)
  rwa [List.take_take, Nat.min_self] at this
theorem Ev.quoN {a c : Nat} {z : Int} (hx : evl l x = some (.int .i64 (a : Int))) (hy : evl l y = some (.int .i64 z)) (hz : z = (c : Int)) (hc : 0 < c) (ha : a ≤ 9223372036854775807) : Ev P n l w (.binOp .quo t x y ty) (.int .i64 ((a / c : Nat) : Int)) := by
  subst hz
  have e : (a : Int).tdiv (c : Int) = ((a / c : Nat) : Int) := rfl
  have hq : ∀ q : Nat, q ≤ a → I64 (q : Int) := fun q hq => I64.mk (by omega) (by omega)
  have h2 := Ev.quo (P := P) (n := n) (w := w) (t := t) (ty := ty) hx hy (by omega) (by rw [e]; exact hq _ (Nat.div_le_self a c))
  rwa [e] at h2
theorem Ev.remN {a c : Nat} {z : Int} (hx : evl l x = some (.int .i64 (a : Int))) (hy : evl l y = some (.int .i64 z)) (hz : z = (c : Int)) (hc : 0 < c) (ha : a ≤ 9223372036854775807) : Ev P n l w (.binOp .rem t x y ty) (.int .i64 ((a % c : Nat) : Int)) :=
  Ev.binop hx hy (eqGuard_at_int ..) fun w => by
    subst hz
    have e : ((a % c : Nat) : Int) = (a : Int).tmod (c : Int) := rfl
    have hc2 : c ≠ 0 := by omega
    rw [e]
    simp [binOp, Op.intDiv, hc2]
theorem Ev.idxP {len i g : Nat} {k : IntKind} {z : Int} (hu : P.underlying t = some (.array len e)) (hs : Size P e 1) (hx : evl l x = some (.pointer (some ⟨g, 0, none⟩))) (hy : evl l y = some (.int k z)) (hz : z = (i : Int)) (hi : i < len) : Ev P n l w (.indexAddr t x y) (.pointer (some ⟨g, i, none⟩)) := fun o a w' ho ha _ => by
  unfold execOp; rw [ho]
  have h1 : P.arrayLen t = len := by simp [Program.arrayLen, hu]
  have h2 : P.elem t = e := by simp [Program.elem, hu]
  have h3 : (Instr.indexAt t (.pointer (some ⟨g, 0, none⟩)) (.int k z)).run P w' = .ok (.pointer (some ⟨g, i, none⟩)) w' := by
    rw [run_indexAt_array w' t _ k z (by rw [h1, h2]; exact hu), hz, if_pos ⟨by omega, by rw [h1]; omega⟩, h2, hs w']
    simp [Addr.add]
    intro h; exact h.symm
  simp [ha.eval hx, ha.eval hy, h3]
def tab8 : ByteArray := ⟨#[0,1,2,2,3,3,3,3,4,4,4,4,4,4,4,4,5,5,5,5,5,5,5,5,5,5,5,5,5,5,5,5,6,6,6,6,6,6,6,6,6,6,6,6,6,6,6,6,6,6,6,6,6,6,6,6,6,6,6,6,6,6,6,6,7,7,7,7,7,7,7,7,7,7,7,7,7,7,7,7,7,7,7,7,7,7,7,7,7,7,7,7,7,7,7,7,7,7,7,7,7,7,7,7,7,7,7,7,7,7,7,7,7,7,7,7,7,7,7,7,7,7,7,7,7,7,7,7,8,8,8,8,8,8,8,8,8,8,8,8,8,8,8,8,8,8,8,8,8,8,8,8,8,8,8,8,8,8,8,8,8,8,8,8,8,8,8,8,8,8,8,8,8,8,8,8,8,8,8,8,8,8,8,8,8,8,8,8,8,8,8,8,8,8,8,8,8,8,8,8,8,8,8,8,8,8,8,8,8,8,8,8,8,8,8,8,8,8,8,8,8,8,8,8,8,8,8,8,8,8,8,8,8,8,8,8,8,8,8,8,8,8,8,8,8,8,8,8,8,8,8,8,8,8,8,8]⟩
set_option maxRecDepth 100000 in
theorem Ev.len8 {k : IntKind} {m : Nat} (hu : P.underlying t = some .string) (hx : evl l x = some (.string tab8)) (hy : evl l y = some (.int k (m : Int))) (h : m < 256) : Ev P n l w (.index t x y) (.int .u8 ((bitLen m : Nat) : Int)) := fun o a w' ho ha _ => by
  unfold execOp; rw [ho]
  have hs : m < tab8.size := h
  have h1 : (Instr.index t (.string tab8) (.int k (m : Int))).run P w' = .ok (.int .u8 ((bitLen m : Nat) : Int)) w' := by
    rw [← len8tab_get m hs]
    unfold Instr.index
    simp only [asIntOf, Sem.run_bind, Sem.run_pure, run_underlying hu, Result.andThen_ok]
    rw [if_pos (by omega), Int.toNat_natCast, getElem?_pos tab8 m hs]
    rfl
  simp [ha.eval hx, ha.eval hy, h1]
theorem wrap_nat_u8 {m : Nat} (h : m < 256) : IntKind.u8.wrap (m : Int) = (m : Int) := by rw [IntKind.wrap_u8]; omega
theorem Ev.shrU {m c : Nat} {k : IntKind} (hx : evl l x = some (.int .u64 (m : Int))) (hy : evl l y = some (.int k (c : Int))) (hc : Nat.ble c 64 = true) : Ev P n l w (.binOp .shr t x y ty) (.int .u64 ((m / 2 ^ c : Nat) : Int)) :=
  Ev.binop hx hy (eqGuard_at_int ..) fun w => by
    have h : (binOp .shr t (.int .u64 (m : Int)) (.int k (c : Int))) = Op.shift .shr .u64 (m : Int) k (c : Int) := rfl
    have hc' := Nat.le_of_ble_eq_true hc
    have e : min (c : Int).toNat IntKind.u64.bits = c := by show min (c : Int).toNat 64 = c; omega
    rw [h, shift_shr_any _ _ _ _ (by omega), e]; norm_cast
theorem ptr_of {t e : TypeId} (hu : P.underlying t = some (.pointer e)) : P.underlying t = some (.pointer (P.pointee t)) := by
  have h : P.pointee t = e := by simp [Program.pointee, hu]
  rw [h]; exact hu
theorem Ev.pnil {p : Option Addr} {e : TypeId} (hu : P.underlying t = some (.pointer e)) (hx : evl l x = some (.pointer p)) (hy : evl l y = some (.pointer none)) : Ev P n l w (.binOp .eql t x y ty) (.bool p.isNone) :=
  Ev.binop hx hy (eqGuard_at_pointer ..) fun w => run_eql_pointer_nil w t p (ptr_of hu)
theorem Ev.pnn {p : Option Addr} {e : TypeId} (hu : P.underlying t = some (.pointer e)) (hx : evl l x = some (.pointer p)) (hy : evl l y = some (.pointer none)) : Ev P n l w (.binOp .neq t x y ty) (.bool (!p.isNone)) :=
  Ev.binop hx hy (eqGuard_at_pointer ..) fun w => run_neq_pointer_nil w t p (ptr_of hu)
theorem Ev.eqfn {f : Fn} {as cs : Array Value} {ps rs' : Array TypeId} {vr : Bool} (hu : P.underlying t = some (.func ps rs' vr)) (hx : evl l x = some (.func f as cs)) : Ev P n l w (.binOp .eql t x (.const .nilFunc) ty) (.bool false) :=
  Ev.binop hx rfl (eqGuard_at_func ..) fun w => by
    have h : (Op.equal t (.func f as cs) .nilFunc).run P w = .ok false w := run_eqIn_fn 9999 hu
    simp only [binOp]
    simp [h]
theorem Ev.eqnf {ps rs' : Array TypeId} {vr : Bool} (hu : P.underlying t = some (.func ps rs' vr)) (hx : evl l x = some .nilFunc) : Ev P n l w (.binOp .eql t x (.const .nilFunc) ty) (.bool true) :=
  Ev.binop hx rfl (eqGuard_at_nilFunc ..) fun w => by
    have h : (Op.equal t .nilFunc .nilFunc).run P w = .ok true w := run_eqIn_nf 9999 hu
    simp only [binOp]
    simp [h]
end
section
variable {P : Program} {n : Cx} {l : List (Nat × Value)} {b w : World} {S : Nat → Prop} {rs rest : List Res} {Q : Exit → Act → World → Prop} {K : Act → World → Prop} {ops : Array Oper} {os : List Oper} {ty : TypeId} {pos : String} {aft : Array Edge} {d : Nat}
/-- 'make([]T, n)', n written out -/
theorem mkz {t e : TypeId} {m : Nat} {z : Int} {cs : List Value} {x y : Operand} (hx : evl l x = some (.int .i64 z)) (hy : evl l y = some (.int .i64 z)) (hb : ∀ w, (Instr.makeSlice t (.int .i64 z) (.int .i64 z)).run P w = .ok (.slice (some ⟨w.heap.size, 0, none⟩) m m) (w.alloc (.cells cs.toArray e))) (H : Hp b S w rs)
    (k : ∀ g w', Hp b S w' (rBx g e cs :: rs) → WL P n ops Q K os ((d, .slice (some ⟨g, 0, none⟩) m m) :: l) w') (hd : Nat.blt d n.size = true := by rfl) : WL P n ops Q K (⟨some d, .makeSlice t x y, ty, pos, aft, none⟩ :: os) l w :=
  WL.val (v := .slice (some ⟨w.heap.size, 0, none⟩) m m) (fun a _ => wanted_none a) rfl hd (R := fun w2 => w2 = w.alloc (.cells cs.toArray e)) (fun a ha => ⟨_, by unfold execOp; simp [ha.eval hx, ha.eval hy, hb], rfl⟩) fun w2 e2 => by
    subst e2
    exact k _ _ (H.new (r := rBx w.heap.size e cs) (Ext.alloc w _) (fun g hg => by show _ ∧ _; rw [show g = w.heap.size from hg]; simp) (Bx.new w e cs))
/-- an entry that was not there -/
theorem upd {t kt et : TypeId} {m ky vy : Operand} {z : Int} {g clk : Nat} {es : Array MapEntry} {v : Value} (H : Hp b S w rs) (s : Sel rs (rObj g (.map es clk)) rest) (hx : evl l m = some (.map (some g))) (hkey : evl l ky = some (.int .i64 z)) (hv : evl l vy = some v)
    (hm : P.underlying t = some (.map kt et)) (hk : P.underlying kt = some (.int .i64)) (hf : Instr.findNow (.int .i64) (.int .i64 z) es.toList 0 = some none)
    (k : ∀ w', Hp b S w' (rObj g (.map (es.push ⟨.int .i64 z, v, clk⟩) (clk + 1)) :: rest) → WL P n ops Q K os l w') : WL P n ops Q K (⟨none, .mapUpdate t m ky vy, ty, pos, aft, none⟩ :: os) l w :=
  WL.unit (fun a _ => wanted_none a) rfl (R := fun w' => w' = w.putObj g (.map (es.push ⟨.int .i64 z, v, clk⟩) (clk + 1))) (fun a ha => ⟨_, by
    unfold execOp; simp [ha.eval hx, ha.eval hkey, ha.eval hv, run_insert hm hk (H.obj s) hf], rfl⟩) fun w' e => by
    subst e; exact k _ (H.putObj s _)
theorem Ev.lenM {t kt et : TypeId} {m : Operand} {g clk : Nat} {es : Array MapEntry} (H : Hp b S w rs) (sl : Sel rs (rObj g (.map es clk)) rest) (hm : P.underlying t = some (.map kt et)) (hx : evl l m = some (.map (some g))) : Ev P n l w (.call ⟨.builtin .len, #[m], #[t]⟩) (.int .i64 (es.size : Int)) := fun o a w' ho ha ex => by
  have hb : w'.heap[g]? = some (.map es clk) := (ex.block g (Array.getElem?_eq_some_iff.1 (H.obj sl)).1).trans (H.obj sl)
  have h1 : (Builtin.len_ #[t] o.type #[.map (some g)]).run P w' = .ok (.int .i64 (es.size : Int)) w' := by
    simp only [Builtin.len_]
    simp [run_underlying hm, MapKept.run_getObj_map hb, Result.andThen]
    rfl
  unfold execOp; rw [ho]
  simp only [resolve, Sem.run_bind, Sem.run_pure, Result.andThen_ok, invoke, builtin, List.map_toArray, List.map_cons, List.map_nil, ha.eval hx, h1]
/-- a store of a part of a box -/
theorem run_storePart {g o : Nat} {t t' : TypeId} {cs ds : List Value} (hs : Size P t ds.length) (hb : Bx w g t' cs) (hl : o + ds.length ≤ cs.length) (h1 : ∀ u ∈ ds, u.oneCell' = true) {v : Value} (hv : v.cells = ds.toArray) :
    (Instr.storeAt t (.pointer (some ⟨g, o, none⟩)) v).run P w = .ok () (w.setRow g (cs.take o ++ ds ++ cs.drop (o + ds.length)).toArray) := by
  have hst := run_storeCells_at P g o t' ds 0 cs.toArray w hb (by simpa using hl) h1
  simp only [Instr.storeAt, Instr.sureAddr, storeVar, hv, Sem.run_bind, Sem.run_pure, Result.andThen_ok, hs w]
  simp only [List.size_toArray, ne_eq, not_true_eq_false, if_false, Sem.run_bind, Sem.run_pure, Result.andThen_ok]
  rw [hst]
  simp
theorem stp {t t' : TypeId} {x y : Operand} {g o : Nat} {v : Value} {cs ds cs' : List Value} (hx : evl l x = some (.pointer (some ⟨g, o, none⟩))) (hy : evl l y = some v) (hv : v.cells = ds.toArray) (hs : Size P t ds.length) (H : Hp b S w rs) (s : Sel rs (rBx g t' cs) rest) (hl : Nat.ble (o + ds.length) cs.length = true) (h1 : ds.all (fun u => u.oneCell') = true) (hc : cs.take o ++ ds ++ cs.drop (o + ds.length) = cs')
    (k : ∀ w', Hp b S w' (rBx g t' cs' :: rest) → WL P n ops Q K os l w') : WL P n ops Q K (⟨none, .store t x y, ty, pos, aft, none⟩ :: os) l w :=
  WL.unit (fun a _ => wanted_none a) rfl (R := fun w' => w' = w.setRow g (cs.take o ++ ds ++ cs.drop (o + ds.length)).toArray) (fun a ha => ⟨_, by
    unfold execOp; simp [ha.eval hx, ha.eval hy, run_storePart (P := P) hs (H.x s) (Nat.le_of_ble_eq_true hl) (fun u hu => List.all_eq_true.1 h1 u hu) hv], rfl⟩) fun w' e => by
    subst e; subst hc
    exact k _ ((H.sel s).put (r' := rBx g t' (cs.take o ++ ds ++ cs.drop (o + ds.length))) (Wr.of_mod (g := g) ⟨rfl, rfl, rfl, by simp, fun k _ hn => setRow_other w g k _ hn, Nat.le_refl _⟩ rfl) (fun g hg => .inl hg) (setRow_heap w g cs.toArray _ t' (0, 0) (H.x s)))
/-- an operation whose value goes nowhere -/
theorem WL.val0 {o : Oper} {v : Value} (hw : ∀ a, Has n l a → Region.wanted o (yielded ops a.tmps) = true) (hdst : o.dst = none) {R : World → Prop}
    (hrun : ∀ a, Has n l a → ∃ w', (execOp a.eval o).run P w = .ok (.value v) w' ∧ R w') (k : ∀ w', R w' → WL P n ops Q K os l w') : WL P n ops Q K (o :: os) l w := by
  intro a ha
  obtain ⟨w', hr, hR⟩ := hrun a ha
  unfold wpK
  rw [if_pos (hw a ha)]
  refine opw_value hr ?_
  rw [hdst]
  exact k w' hR a ha
/-- 'clear' of a map -/
theorem clrM {t kt et : TypeId} {m : Operand} {g clk : Nat} {es : Array MapEntry} (H : Hp b S w rs) (sl : Sel rs (rObj g (.map es clk)) rest) (hm : P.underlying t = some (.map kt et)) (hx : evl l m = some (.map (some g)))
    (k : ∀ w', Hp b S w' (rObj g (.map #[] clk) :: rest) → WL P n ops Q K os l w') : WL P n ops Q K (⟨none, .call ⟨.builtin .clear, #[m], #[t]⟩, ty, pos, aft, none⟩ :: os) l w :=
  WL.val0 (v := .tuple #[]) (fun a _ => wanted_none a) rfl (R := fun w' => w' = w.putObj g (.map #[] clk)) (fun a ha => ⟨_, by
    have h1 : (Builtin.clear_ #[t] ty #[.map (some g)]).run P w = .ok (.tuple #[]) (w.putObj g (.map #[] clk)) := by
      simp only [Builtin.clear_]
      simp [run_underlying hm, MapKept.run_getObj_map (H.obj sl), MapKept.run_setObj_map _ (H.obj sl), Result.andThen]
      rfl
    unfold execOp
    simp only [resolve, Sem.run_bind, Sem.run_pure, Result.andThen_ok, invoke, builtin, List.map_toArray, List.map_cons, List.map_nil, ha.eval hx, h1], rfl⟩) fun w' e => by
    subst e; exact k _ (H.putObj sl _)
end
/-! ### a function value that has its first arguments -/
section
variable {P : Program} {n : Cx} {l : List (Nat × Value)} {w : World} {Q : Exit → Act → World → Prop} {K : Act → World → Prop} {ops : Array Oper} {os : List Oper} {ty : TypeId} {pos : String} {aft : Array Edge} {d : Nat} {fop : Operand} {args : List Operand} {tys : Array TypeId} {f : FuncId} {fs caps vs all : List Value} {R : Value → World → Prop}
theorem Ev.funcB {xs ys : List Operand} (hx : evls l xs = some fs) (hy : evls l ys = some caps) : Ev P n l w (.makeFunc (.func f) xs.toArray ys.toArray) (.func (.func f) fs.toArray caps.toArray) := fun o a w' ho ha _ => by
  have h1 := ha.evals hx
  have h2 := ha.evals hy
  unfold execOp; rw [ho]
  simp only [List.map_toArray, h1, h2]
  rfl
theorem run_callw {a : Act} {o : Oper} (ho : o.op = .call ⟨.value fop, args.toArray, tys⟩) (ha : Has n l a)
    (hf : evl l fop = some (.func (.func f) fs.toArray caps.toArray)) (hargs : evls l args = some vs) (hall : fs ++ vs ++ caps = all) (hc : Callable P f) (w : World) : (execOp a.eval o).run P w = .ok (.enter f all.toArray) w := by
  unfold execOp
  rw [ho]
  have h1 := ha.eval hf
  have h2 := ha.evals hargs
  simp only [resolve, h1, Deferred.ofValue, Sem.run_bind, Sem.run_pure, Result.andThen_ok, invoke]
  have : (fs.toArray ++ Array.map a.eval args.toArray ++ caps.toArray : Array Value) = all.toArray := by
    rw [List.map_toArray, h2, ← hall]; simp
  rw [this]
  exact hc _ w
theorem WL.callF (hf : evl l fop = some (.func (.func f) fs.toArray caps.toArray)) (hargs : evls l args = some vs) (hall : fs ++ vs ++ caps = all) (hcal : Callable P f) (hc : Rets P f all.toArray w R) (hd : Nat.blt d n.size = true)
    (k : ∀ v w', R v w' → WL P n ops Q K os ((d, v) :: l) w') : WL P n ops Q K (⟨some d, .call ⟨.value fop, args.toArray, tys⟩, ty, pos, aft, none⟩ :: os) l w :=
  fun a ha => wpK_call (wanted_none a) (run_callw rfl ha hf hargs hall hcal w) hc fun v w' hv => k v w' hv _ (ha.put hd v)
theorem WL.call0F (hf : evl l fop = some (.func (.func f) fs.toArray caps.toArray)) (hargs : evls l args = some vs) (hall : fs ++ vs ++ caps = all) (hcal : Callable P f) (hc : Rets P f all.toArray w R)
    (k : ∀ v w', R v w' → WL P n ops Q K os l w') : WL P n ops Q K (⟨none, .call ⟨.value fop, args.toArray, tys⟩, ty, pos, aft, none⟩ :: os) l w :=
  fun a ha => wpK_call (wanted_none a) (run_callw rfl ha hf hargs hall hcal w) hc fun v w' hv => k v w' hv _ ha
end
/-! ### a closed run -/
section
variable {P : Program} {n : Cx} {l : List (Nat × Value)} {w : World} {Q : Exit → Act → World → Prop}
theorem cT {c : Operand} {x y z : Code} (hc : evl l c = some (.bool true)) (h : WP P n x l w (Exit.then (cwp P n z Q) Q)) : WP P n (.seq (.cond c x y) z) l w Q := WP.cond hc (fun _ => h) (fun h => by cases h)
theorem cF {c : Operand} {x y z : Code} (hc : evl l c = some (.bool false)) (h : WP P n y l w (Exit.then (cwp P n z Q) Q)) : WP P n (.seq (.cond c x y) z) l w Q := WP.cond hc (fun h => by cases h) (fun _ => h)
theorem cTe {c : Operand} {x y : Code} (hc : evl l c = some (.bool true)) (h : WP P n x l w Q) : WP P n (.cond c x y) l w Q := WP.cond_end hc (fun _ => h) (fun h => by cases h)
theorem cFe {c : Operand} {x y : Code} (hc : evl l c = some (.bool false)) (h : WP P n y l w Q) : WP P n (.cond c x y) l w Q := WP.cond_end hc (fun h => by cases h) (fun _ => h)
/-- so many rounds -/
def RN (P : Program) (n : Cx) (c : Code) (Q : Exit → Act → World → Prop) (m : Nat) (l : List (Nat × Value)) (w : World) : Prop := ∀ a, Has n l a → Code.roundsIn n.fence 0 P c Q m a w
theorem Rn (m : Nat) {c : Code} (h : RN P n c Q m l w) : WP P n (.loop c) l w Q := fun a ha => wpIn_loop_rounds m (h a ha)
theorem RN.s {m : Nat} {c : Code} (h : WP P n c l w (Exit.then (Code.roundsIn n.fence 0 P c Q m) Q)) : RN P n c Q (m + 1) l w := h
theorem Pst.rnd {m : Nat} {c : Code} (h : RN P n c Q m l w) : Pst n (Exit.then (Code.roundsIn n.fence 0 P c Q m) Q) .normal l w := h
end
end Go.Proofs.YtlnjmkmhmbijmaaGreat
