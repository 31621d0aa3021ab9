/-
  No cell of these rows narrows 'for every input' (looked for: loops, veiled, ifaces, maps, wideKeys, modest, calm, conditions, laid).
  DERIVED. THE GIVEN ROWS OF THIS SEAT. 5 by the template 'for every input the law returns true; each argument reads behind the call as it read before'; 0 by the template 'total and deterministic' (their statements: YtigmondpokkaoaaTotals.lean).
  GIVEN WITH THE SEED: the statements are not yours to turn. If you find one false, say at which input.
  Laid BY PROGRAM, IN A SANDBOX (cutbox-rows.mjs): the forced cells as the released guide's own fill.sh prints them over the translation e096a221c9492a7c… (all of the seat's roots in one cut). By AI agents, Wed Nov 11 2026. No macro, syntax, notation, axiom, sorry.
-/
import Derived.Test.YtigmondpokkaoaaChecked
import GoSem.Claim
import GoSem.ClaimJoined
import GoSem.ClaimMapViews
import Derived.JoinedTies
import Derived.KernelRfl
namespace Go.Proofs.Ytigmondpokkaoaa
/- THE CELL 'sum', in the pinned program and in every row, IS THE sha256 OF THE DUMP (.gsa) THAT YtigmondpokkaoaaProg.lean LOADS. Nothing in Lean hashes anything: it is a label: what it is worth is what the hold of that sum in a sandbox is worth. -/
noncomputable def Try.pinned : Pinned := { name := "ytigmondpokkaoaa", sum := "e096a221c9492a7c58a4fad165a66463583ff9a6d0b745431d6bcd3ffc5d4c86", checked := Try.checked }
namespace Rows
def none {H : Type} : Left H := { results := [], args := [] }

/-- 'suturelaw20.BalanceStops': WHATEVER THE INPUT: true; the input reads as it did. -/
def balanceStopsSpec : ChangeSpec := { name := "balanceStops", fn := fun _ => fun
  | [d1, d2, d3, d4] => { results := [.lit (.bool true)], args := [d1, d2, d3, d4] }
  | _ => none }
def balanceStopsRow : OpenClaim := { program := "ytigmondpokkaoaa", sum := "e096a221c9492a7c58a4fad165a66463583ff9a6d0b745431d6bcd3ffc5d4c86", func := "suture/suturelaw20.BalanceStops", spec := "balanceStops", unfollowed := true, recurses := true, apart := false }
def BalanceStopsSaid : Prop := balanceStopsRow.holds Try.pinned (OpenSpec.ofChange balanceStopsSpec)

/-- ITS FALSE NEIGHBOUR: 'it returns false'. Refute it at one input. -/
def balanceStopsWrong : ChangeSpec := { name := "balanceStops", fn := fun _ => fun
  | [d1, d2, d3, d4] => { results := [.lit (.bool false)], args := [d1, d2, d3, d4] }
  | _ => none }
def BalanceStopsWrongFalsely : Prop := balanceStopsRow.holds Try.pinned (OpenSpec.ofChange balanceStopsWrong)

/-- 'suturelaw20.BalanceEven': WHATEVER THE INPUT: true; the input reads as it did. -/
def balanceEvenSpec : ChangeSpec := { name := "balanceEven", fn := fun _ => fun
  | [d1, d2, d3, d4] => { results := [.lit (.bool true)], args := [d1, d2, d3, d4] }
  | _ => none }
def balanceEvenRow : OpenClaim := { program := "ytigmondpokkaoaa", sum := "e096a221c9492a7c58a4fad165a66463583ff9a6d0b745431d6bcd3ffc5d4c86", func := "suture/suturelaw20.BalanceEven", spec := "balanceEven", unfollowed := true, recurses := true, apart := false }
def BalanceEvenSaid : Prop := balanceEvenRow.holds Try.pinned (OpenSpec.ofChange balanceEvenSpec)

/-- ITS FALSE NEIGHBOUR: 'it returns false'. Refute it at one input. -/
def balanceEvenWrong : ChangeSpec := { name := "balanceEven", fn := fun _ => fun
  | [d1, d2, d3, d4] => { results := [.lit (.bool false)], args := [d1, d2, d3, d4] }
  | _ => none }
def BalanceEvenWrongFalsely : Prop := balanceEvenRow.holds Try.pinned (OpenSpec.ofChange balanceEvenWrong)

/-- 'suturelaw20.BalanceLoads': WHATEVER THE INPUT: true; the input reads as it did. -/
def balanceLoadsSpec : ChangeSpec := { name := "balanceLoads", fn := fun _ => fun
  | [d1, d2] => { results := [.lit (.bool true)], args := [d1, d2] }
  | _ => none }
def balanceLoadsRow : OpenClaim := { program := "ytigmondpokkaoaa", sum := "e096a221c9492a7c58a4fad165a66463583ff9a6d0b745431d6bcd3ffc5d4c86", func := "suture/suturelaw20.BalanceLoads", spec := "balanceLoads", unfollowed := true, recurses := true, apart := false }
def BalanceLoadsSaid : Prop := balanceLoadsRow.holds Try.pinned (OpenSpec.ofChange balanceLoadsSpec)

/-- ITS FALSE NEIGHBOUR: 'it returns false'. Refute it at one input. -/
def balanceLoadsWrong : ChangeSpec := { name := "balanceLoads", fn := fun _ => fun
  | [d1, d2] => { results := [.lit (.bool false)], args := [d1, d2] }
  | _ => none }
def BalanceLoadsWrongFalsely : Prop := balanceLoadsRow.holds Try.pinned (OpenSpec.ofChange balanceLoadsWrong)

/-- 'suturelaw20.BalanceLegal': WHATEVER THE INPUT: true; the input reads as it did. -/
def balanceLegalSpec : ChangeSpec := { name := "balanceLegal", fn := fun _ => fun
  | [d1, d2, d3, d4] => { results := [.lit (.bool true)], args := [d1, d2, d3, d4] }
  | _ => none }
def balanceLegalRow : OpenClaim := { program := "ytigmondpokkaoaa", sum := "e096a221c9492a7c58a4fad165a66463583ff9a6d0b745431d6bcd3ffc5d4c86", func := "suture/suturelaw20.BalanceLegal", spec := "balanceLegal", unfollowed := true, recurses := true, apart := false }
def BalanceLegalSaid : Prop := balanceLegalRow.holds Try.pinned (OpenSpec.ofChange balanceLegalSpec)

/-- ITS FALSE NEIGHBOUR: 'it returns false'. Refute it at one input. -/
def balanceLegalWrong : ChangeSpec := { name := "balanceLegal", fn := fun _ => fun
  | [d1, d2, d3, d4] => { results := [.lit (.bool false)], args := [d1, d2, d3, d4] }
  | _ => none }
def BalanceLegalWrongFalsely : Prop := balanceLegalRow.holds Try.pinned (OpenSpec.ofChange balanceLegalWrong)

/-- 'suturelaw20.BalanceBack': WHATEVER THE INPUT: true; the input reads as it did. -/
def balanceBackSpec : ChangeSpec := { name := "balanceBack", fn := fun _ => fun
  | [d1, d2] => { results := [.lit (.bool true)], args := [d1, d2] }
  | _ => none }
def balanceBackRow : OpenClaim := { program := "ytigmondpokkaoaa", sum := "e096a221c9492a7c58a4fad165a66463583ff9a6d0b745431d6bcd3ffc5d4c86", func := "suture/suturelaw20.BalanceBack", spec := "balanceBack", unfollowed := true, recurses := true, apart := false }
def BalanceBackSaid : Prop := balanceBackRow.holds Try.pinned (OpenSpec.ofChange balanceBackSpec)

/-- ITS FALSE NEIGHBOUR: 'it returns false'. Refute it at one input. -/
def balanceBackWrong : ChangeSpec := { name := "balanceBack", fn := fun _ => fun
  | [d1, d2] => { results := [.lit (.bool false)], args := [d1, d2] }
  | _ => none }
def BalanceBackWrongFalsely : Prop := balanceBackRow.holds Try.pinned (OpenSpec.ofChange balanceBackWrong)

/- THE SECOND FORM. 'bulk': how many values and letters a reading holds, each counted each time it is reached (what is shared counts as often as it is met; a slice's spare places count too). A statement '..UptoSaid' is the law's where the arguments, and the package variables that the reading takes, are together of bulk at most 1048576: NARROWER than '..Said'. Prove '..Said' where nothing that the law and all that it calls make is longer than what came in: it says more and counts as full. Else prove '..UptoSaid'. A law counts once. -/
mutual
def uptoBulk {H : Type} : DataW H → Nat
  | .lit (.string bytes) => bytes.length + 1
  | .lit _ => 1
  | .nil => 1
  | .ptr d => uptoBulk d + 1
  | .slice elems spare => uptoBulkAll elems + uptoBulkAll spare + 1
  | .agg parts => uptoBulkAll parts + 1
  | .iface _ d => uptoBulk d + 1
  | .map entries => uptoBulkEntries entries + 1
  | .held _ => 1
def uptoBulkAll {H : Type} : List (DataW H) → Nat
  | [] => 0
  | d :: r => uptoBulk d + uptoBulkAll r
def uptoBulkEntries {H : Type} : List (Lit × DataW H) → Nat
  | [] => 0
  | x :: r => uptoBulkEntry x + uptoBulkEntries r
def uptoBulkEntry {H : Type} : Lit × DataW H → Nat
  | (.string bytes, d) => bytes.length + uptoBulk d + 1
  | (_, d) => uptoBulk d + 1
 end
def uptoSmall : (H : Type) → List (DataW H) → Bool := fun _ ds => decide (uptoBulkAll ds ≤ 1048576)
def OpenSpec.upto (s : _root_.Go.ChangeSpec) : _root_.Go.OpenSpec := { _root_.Go.OpenSpec.ofChange s with cond := some uptoSmall }

/-- 'suturelaw20.BalanceStops', WHERE WHAT IT READS IS OF BULK AT MOST 1048576: true; the input reads as it did. -/
def balanceStopsUptoRow : OpenClaim := { program := "ytigmondpokkaoaa", sum := "e096a221c9492a7c58a4fad165a66463583ff9a6d0b745431d6bcd3ffc5d4c86", func := "suture/suturelaw20.BalanceStops", spec := "balanceStops", unfollowed := true, recurses := true, apart := false, narrowed := true }
def BalanceStopsUptoSaid : Prop := balanceStopsUptoRow.holds Try.pinned (OpenSpec.upto balanceStopsSpec)

/-- 'suturelaw20.BalanceEven', WHERE WHAT IT READS IS OF BULK AT MOST 1048576: true; the input reads as it did. -/
def balanceEvenUptoRow : OpenClaim := { program := "ytigmondpokkaoaa", sum := "e096a221c9492a7c58a4fad165a66463583ff9a6d0b745431d6bcd3ffc5d4c86", func := "suture/suturelaw20.BalanceEven", spec := "balanceEven", unfollowed := true, recurses := true, apart := false, narrowed := true }
def BalanceEvenUptoSaid : Prop := balanceEvenUptoRow.holds Try.pinned (OpenSpec.upto balanceEvenSpec)

/-- 'suturelaw20.BalanceLoads', WHERE WHAT IT READS IS OF BULK AT MOST 1048576: true; the input reads as it did. -/
def balanceLoadsUptoRow : OpenClaim := { program := "ytigmondpokkaoaa", sum := "e096a221c9492a7c58a4fad165a66463583ff9a6d0b745431d6bcd3ffc5d4c86", func := "suture/suturelaw20.BalanceLoads", spec := "balanceLoads", unfollowed := true, recurses := true, apart := false, narrowed := true }
def BalanceLoadsUptoSaid : Prop := balanceLoadsUptoRow.holds Try.pinned (OpenSpec.upto balanceLoadsSpec)

/-- 'suturelaw20.BalanceLegal', WHERE WHAT IT READS IS OF BULK AT MOST 1048576: true; the input reads as it did. -/
def balanceLegalUptoRow : OpenClaim := { program := "ytigmondpokkaoaa", sum := "e096a221c9492a7c58a4fad165a66463583ff9a6d0b745431d6bcd3ffc5d4c86", func := "suture/suturelaw20.BalanceLegal", spec := "balanceLegal", unfollowed := true, recurses := true, apart := false, narrowed := true }
def BalanceLegalUptoSaid : Prop := balanceLegalUptoRow.holds Try.pinned (OpenSpec.upto balanceLegalSpec)

/-- 'suturelaw20.BalanceBack', WHERE WHAT IT READS IS OF BULK AT MOST 1048576: true; the input reads as it did. -/
def balanceBackUptoRow : OpenClaim := { program := "ytigmondpokkaoaa", sum := "e096a221c9492a7c58a4fad165a66463583ff9a6d0b745431d6bcd3ffc5d4c86", func := "suture/suturelaw20.BalanceBack", spec := "balanceBack", unfollowed := true, recurses := true, apart := false, narrowed := true }
def BalanceBackUptoSaid : Prop := balanceBackUptoRow.holds Try.pinned (OpenSpec.upto balanceBackSpec)

end Rows
end Go.Proofs.Ytigmondpokkaoaa
