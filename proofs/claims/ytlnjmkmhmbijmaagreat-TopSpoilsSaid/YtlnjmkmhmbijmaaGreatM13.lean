/- The rules in short: regions that draw, calls that change nothing. -/
import Derived.Test.YtlnjmkmhmbijmaaGreatM12
set_option linter.all false
namespace Go.Proofs.YtlnjmkmhmbijmaaGreat
open Go.RowKit
section
variable {P : Program} {n : Cx} {l : List (Nat × Value)} {b w : World} {S : Nat → Prop} {rs rest rk : List Res} {Q : Exit → Act → World → Prop} {K : Act → World → Prop} {Z : World → Prop} {ops : Array Oper} {os : List Oper} {ty : TypeId} {pos : String} {aft : Array Edge} {d : Nat} {fuel : Nat} {listed : Array Bool} {x : Operand} {v : Value}
/-- a region that draws: what is kept throughout (rk), and what it comes to -/
theorem He {ol : List Oper} {id : Nat} {y : Code} (H : Hp b S w rs) (_ : ∀ w', Hp b S w' rs → Hp b S w' rk) (J : List (Nat × Value) → List Res → List (Nat × Value) → World → Prop)
    (h : Region.noSelect ol.toArray = true → Hp b S w.drew rs → WH P n ol.toArray (JK n (J l rk)) (fun w' => Hp b S w' rk) ol.length (List.replicate ol.length false).toArray l w.drew) (k : ∀ l' w', J l rk l' w' → WP P n y l' w' Q)
    (hm : P.follows .mixedOrders = true := by kernel_rfl) (hs : Region.noSelect ol.toArray = true := by kernel_rfl) (hro : n.round = none := by rfl) : WP P n (.seq (.region id ol.toArray true) y) l w Q :=
  WP.held (fun w' => Hp b S w' rk) (J l rk) hm (h hs (H.grow (Ext.refl w).drew)) k hro
theorem Hf {ol : List Oper} {id : Nat} (H : Hp b S w rs) (_ : ∀ w', Hp b S w' rs → Hp b S w' rk) (J : List (Nat × Value) → List Res → List (Nat × Value) → World → Prop)
    (h : Region.noSelect ol.toArray = true → Hp b S w.drew rs → WH P n ol.toArray (JK n (J l rk)) (fun w' => Hp b S w' rk) ol.length (List.replicate ol.length false).toArray l w.drew) (k : ∀ l' w', J l rk l' w' → Pst n Q .normal l' w')
    (hm : P.follows .mixedOrders = true := by kernel_rfl) (hs : Region.noSelect ol.toArray = true := by kernel_rfl) (hro : n.round = none := by rfl) : WP P n (.region id ol.toArray true) l w Q :=
  WP.held_end (fun w' => Hp b S w' rk) (J l rk) hm (h hs (H.grow (Ext.refl w).drew)) k hro
/-- an operation that only reads is taken first -/
theorem Tn (i m : Nat) {op : Op} (hs : Region.noSelect ops = true) (hi : ops[i]? = some ⟨some d, op, ty, pos, aft, none⟩) (he : ∀ w', Hp b S w' rk → Ev P n l w' op v) (hw : Hp b S w rk) (k : WH P n ops K (fun w' => Hp b S w' rk) fuel (LM ops.size m) ((d, v) :: l) w)
    (hf : tkc ops listed (LM ops.size m) i = true := by kernel_rfl) (hd : Nat.blt d n.size = true := by rfl) : WH P n ops K (fun w' => Hp b S w' rk) (fuel + 1) listed l w := WH.tn i _ hs hi hf he hd hw k
theorem Tm (i m : Nat) (hs : Region.noSelect ops = true) (hi : ops[i]? = some ⟨some d, .move x, ty, pos, aft, none⟩) (hx : evl l x = some v) (hw : Hp b S w rk) (k : WH P n ops K (fun w' => Hp b S w' rk) fuel (LM ops.size m) ((d, v) :: l) w)
    (hf : tkc ops listed (LM ops.size m) i = true := by kernel_rfl) (hd : Nat.blt d n.size = true := by rfl) : WH P n ops K (fun w' => Hp b S w' rk) (fuel + 1) listed l w := WH.tn i _ hs hi hf (fun _ _ => Ev.move hx) hd hw k
theorem Ta (i m : Nat) (hs : Region.noSelect ops = true) (hi : ops[i]? = some ⟨some d, .assign x, ty, pos, aft, none⟩) (hx : evl l x = some v) (hw : Hp b S w rk) (k : WH P n ops K (fun w' => Hp b S w' rk) fuel (LM ops.size m) ((d, v) :: l) w)
    (hf : tkc ops listed (LM ops.size m) i = true := by kernel_rfl) (hd : Nat.blt d n.size = true := by rfl) : WH P n ops K (fun w' => Hp b S w' rk) (fuel + 1) listed l w := WH.tn i _ hs hi hf (fun _ _ => Ev.assign hx) hd hw k
theorem Tg (i m : Nat) {op : Op} {j : Nat} {want : Bool} (hs : Region.noSelect ops = true) (hi : ops[i]? = some ⟨some d, op, ty, pos, aft, some (j, want)⟩) (hg : guardOf ops l j = some (.bool want)) (he : ∀ w', Hp b S w' rk → Ev P n l w' op v) (hw : Hp b S w rk) (k : WH P n ops K (fun w' => Hp b S w' rk) fuel (LM ops.size m) ((d, v) :: l) w)
    (hf : tkc ops listed (LM ops.size m) i = true := by kernel_rfl) (hd : Nat.blt d n.size = true := by rfl) : WH P n ops K (fun w' => Hp b S w' rk) (fuel + 1) listed l w := WH.tng i _ hs hi hg hf he hd hw k
theorem Tp (i m : Nat) {op : Op} {j : Nat} {want : Bool} {u : Value} (hs : Region.noSelect ops = true) (hi : ops[i]? = some ⟨some d, op, ty, pos, aft, some (j, want)⟩) (hg : guardOf ops l j = some u) (hv : unlike want u = true) (hw : Hp b S w rk) (k : WH P n ops K (fun w' => Hp b S w' rk) fuel (LM ops.size m) ((d, undef) :: l) w)
    (hf : tkc ops listed (LM ops.size m) i = true := by kernel_rfl) (hd : Nat.blt d n.size = true := by rfl) : WH P n ops K (fun w' => Hp b S w' rk) (fuel + 1) listed l w := WH.tnp i _ hs hi hg hv hf hd hw k
/-- a state that is come to in more than one way: what is new, and what is as it is here -/
theorem Jn (_ : Hp b S w rk) (J : List (Nat × Value) → List Res → List (Nat × Value) → World → Prop) (f m : Nat) (h : ∀ l' w', J l rk l' w' → WH P n ops K Z f (LM ops.size m) l' w') (k : (∀ l' w', J l rk l' w' → WH P n ops K Z f (LM ops.size m) l' w') → WH P n ops K Z fuel listed l w) : WH P n ops K Z fuel listed l w := k h
theorem Kj {i m : Nat} {J : List (Nat × Value) → World → Prop} {l' : List (Nat × Value)} (hS : ∀ l w, J l w → WH P n ops K Z fuel (LM ops.size m) l w) (hk : Z w) (hJ : J l' w) (hs : Sb l l') (he : ((listed.setIfInBounds i true).toList == (LM ops.size m).toList) = true := by kernel_rfl) :
    WL P n.asPlain ops (Only K) (HK P ops K Z fuel (listed.setIfInBounds i true)) [] l w := WH.kj hS he hk hJ hs
theorem O1 (i : Nat) {o : Oper} (hi : ops[i]? = some o) (h : WL P n.asPlain ops (Only K) (HK P ops K Z fuel (listed.setIfInBounds i true)) [o] l w) (hr : Region.ready .any ops listed = [i] := by kernel_rfl) : WH P n ops K Z (fuel + 1) listed l w := WH.one i hr hi h
theorem O2 (i j : Nat) {o o' : Oper} (hi : ops[i]? = some o) (hj : ops[j]? = some o') (h : WL P n.asPlain ops (Only K) (HK P ops K Z fuel (listed.setIfInBounds i true)) [o] l w) (h' : WL P n.asPlain ops (Only K) (HK P ops K Z fuel (listed.setIfInBounds j true)) [o'] l w) (hr : Region.ready .any ops listed = [i, j] := by kernel_rfl) : WH P n ops K Z (fuel + 1) listed l w := WH.two i j hr hi hj h h'
theorem Dn {J : List (Nat × Value) → World → Prop} {l' : List (Nat × Value)} (hJ : J l' w) (hs : Sb l l') (hr : Region.ready .any ops listed = [] := by kernel_rfl) : WH P n ops (JK n J) Z fuel listed l w := WH.dn hJ hs hr
/-- a loop: what is new in a round, and what is as it is here -/
theorem Lp {c : Code} (_ : Hp b S w rk) (J : List (Nat × Value) → List Res → Nat → List (Nat × Value) → World → Prop) {m0 : Nat} {l0 : List (Nat × Value)} (h0 : J l rk m0 l0 w) (hs : Sb l l0)
    (hb : ∀ m l' w', J l rk m l' w' → WP P n c l' w' (Exit.then (Again n (J l rk) m) Q)) : WP P n (.loop c) l w Q := WP.lp (J l rk) h0 hs hb
/-- a call that leaves all as it is -/
theorem C0 {fop : Operand} {args : List Operand} {tys : Array TypeId} {f : FuncId} {caps vs all : List Value} {u : Value} {S' : Nat → Prop} (H : Hp b S w rs)
    (hf : evl l fop = some (.func (.func f) #[] caps.toArray)) (hargs : evls l args = some vs) (hall : vs ++ caps = all) (hcal : Callable P f) (hc : Rets P f all.toArray w fun v w' => v = u ∧ Hp w S' w' [])
    (k : ∀ w', Hp b S w' rs → WL P n ops Q K os ((d, u) :: l) w') (hd : Nat.blt d n.size = true := by rfl) : WL P n ops Q K (⟨some d, .call ⟨.value fop, args.toArray, tys⟩, ty, pos, aft, none⟩ :: os) l w :=
  WL.call hf hargs hall hcal hc hd fun v w' hv => hv.1 ▸ k w' (H.c0 hv.2)
end
end Go.Proofs.YtlnjmkmhmbijmaaGreat
