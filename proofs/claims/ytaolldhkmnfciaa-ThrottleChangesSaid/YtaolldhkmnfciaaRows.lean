/-
  No cell of these rows narrows 'for every input' (looked for: loops, veiled, ifaces, maps, wideKeys, modest, calm, conditions, laid).
  DERIVED. THE GIVEN ROWS OF THIS SEAT. 5 by the template 'for every input the law returns true; each argument reads behind the call as it read before'; 0 by the template 'total and deterministic' (their statements: YtaolldhkmnfciaaTotals.lean).
  GIVEN WITH THE SEED: the statements are not yours to turn. If you find one false, say at which input.
  Laid BY PROGRAM, IN A SANDBOX (cutbox-rows.mjs): the forced cells as the released guide's own fill.sh prints them over the translation e76d55ed0d8171b1… (all of the seat's roots in one cut). By AI agents, Wed Nov 11 2026. No macro, syntax, notation, axiom, sorry.
-/
import Derived.Test.YtaolldhkmnfciaaChecked
import GoSem.Claim
import GoSem.ClaimJoined
import GoSem.ClaimMapViews
import Derived.JoinedTies
import Derived.KernelRfl
namespace Go.Proofs.Ytaolldhkmnfciaa
/- THE CELL 'sum', in the pinned program and in every row, IS THE sha256 OF THE DUMP (.gsa) THAT YtaolldhkmnfciaaProg.lean LOADS. Nothing in Lean hashes anything: it is a label: what it is worth is what the hold of that sum in a sandbox is worth. -/
noncomputable def Try.pinned : Pinned := { name := "ytaolldhkmnfciaa", sum := "e76d55ed0d8171b19c2a8f423842942b94eec1b1962a27a7a3fb60a0a3d6569d", checked := Try.checked }
namespace Rows
def none {H : Type} : Left H := { results := [], args := [] }

/-- 'suturelaw18.ThrottleExpires': WHATEVER THE INPUT: true; the input reads as it did. -/
def throttleExpiresSpec : ChangeSpec := { name := "throttleExpires", fn := fun _ => fun
  | [d1, d2, d3] => { results := [.lit (.bool true)], args := [d1, d2, d3] }
  | _ => none }
def throttleExpiresRow : OpenClaim := { program := "ytaolldhkmnfciaa", sum := "e76d55ed0d8171b19c2a8f423842942b94eec1b1962a27a7a3fb60a0a3d6569d", func := "suture/suturelaw18.ThrottleExpires", spec := "throttleExpires", unfollowed := true, recurses := true, apart := false }
def ThrottleExpiresSaid : Prop := throttleExpiresRow.holds Try.pinned (OpenSpec.ofChange throttleExpiresSpec)

/-- ITS FALSE NEIGHBOUR: 'it returns false'. Refute it at one input. -/
def throttleExpiresWrong : ChangeSpec := { name := "throttleExpires", fn := fun _ => fun
  | [d1, d2, d3] => { results := [.lit (.bool false)], args := [d1, d2, d3] }
  | _ => none }
def ThrottleExpiresWrongFalsely : Prop := throttleExpiresRow.holds Try.pinned (OpenSpec.ofChange throttleExpiresWrong)

/-- 'suturelaw18.ThrottleFree': WHATEVER THE INPUT: true; the input reads as it did. -/
def throttleFreeSpec : ChangeSpec := { name := "throttleFree", fn := fun _ => fun
  | [d1, d2, d3, d4, d5] => { results := [.lit (.bool true)], args := [d1, d2, d3, d4, d5] }
  | _ => none }
def throttleFreeRow : OpenClaim := { program := "ytaolldhkmnfciaa", sum := "e76d55ed0d8171b19c2a8f423842942b94eec1b1962a27a7a3fb60a0a3d6569d", func := "suture/suturelaw18.ThrottleFree", spec := "throttleFree", unfollowed := true, recurses := true, apart := false }
def ThrottleFreeSaid : Prop := throttleFreeRow.holds Try.pinned (OpenSpec.ofChange throttleFreeSpec)

/-- ITS FALSE NEIGHBOUR: 'it returns false'. Refute it at one input. -/
def throttleFreeWrong : ChangeSpec := { name := "throttleFree", fn := fun _ => fun
  | [d1, d2, d3, d4, d5] => { results := [.lit (.bool false)], args := [d1, d2, d3, d4, d5] }
  | _ => none }
def ThrottleFreeWrongFalsely : Prop := throttleFreeRow.holds Try.pinned (OpenSpec.ofChange throttleFreeWrong)

/-- 'suturelaw18.ThrottleChanges': WHATEVER THE INPUT: true; the input reads as it did. -/
def throttleChangesSpec : ChangeSpec := { name := "throttleChanges", fn := fun _ => fun
  | [d1, d2, d3, d4, d5, d6] => { results := [.lit (.bool true)], args := [d1, d2, d3, d4, d5, d6] }
  | _ => none }
def throttleChangesRow : OpenClaim := { program := "ytaolldhkmnfciaa", sum := "e76d55ed0d8171b19c2a8f423842942b94eec1b1962a27a7a3fb60a0a3d6569d", func := "suture/suturelaw18.ThrottleChanges", spec := "throttleChanges", unfollowed := true, recurses := true, apart := false }
def ThrottleChangesSaid : Prop := throttleChangesRow.holds Try.pinned (OpenSpec.ofChange throttleChangesSpec)

/-- ITS FALSE NEIGHBOUR: 'it returns false'. Refute it at one input. -/
def throttleChangesWrong : ChangeSpec := { name := "throttleChanges", fn := fun _ => fun
  | [d1, d2, d3, d4, d5, d6] => { results := [.lit (.bool false)], args := [d1, d2, d3, d4, d5, d6] }
  | _ => none }
def ThrottleChangesWrongFalsely : Prop := throttleChangesRow.holds Try.pinned (OpenSpec.ofChange throttleChangesWrong)

/-- 'suturelaw18.ThrottleKeeps': WHATEVER THE INPUT: true; the input reads as it did. -/
def throttleKeepsSpec : ChangeSpec := { name := "throttleKeeps", fn := fun _ => fun
  | [d1, d2, d3] => { results := [.lit (.bool true)], args := [d1, d2, d3] }
  | _ => none }
def throttleKeepsRow : OpenClaim := { program := "ytaolldhkmnfciaa", sum := "e76d55ed0d8171b19c2a8f423842942b94eec1b1962a27a7a3fb60a0a3d6569d", func := "suture/suturelaw18.ThrottleKeeps", spec := "throttleKeeps", unfollowed := true, recurses := true, apart := false }
def ThrottleKeepsSaid : Prop := throttleKeepsRow.holds Try.pinned (OpenSpec.ofChange throttleKeepsSpec)

/-- ITS FALSE NEIGHBOUR: 'it returns false'. Refute it at one input. -/
def throttleKeepsWrong : ChangeSpec := { name := "throttleKeeps", fn := fun _ => fun
  | [d1, d2, d3] => { results := [.lit (.bool false)], args := [d1, d2, d3] }
  | _ => none }
def ThrottleKeepsWrongFalsely : Prop := throttleKeepsRow.holds Try.pinned (OpenSpec.ofChange throttleKeepsWrong)

/-- 'suturelaw18.ThrottleEnds': WHATEVER THE INPUT: true; the input reads as it did. -/
def throttleEndsSpec : ChangeSpec := { name := "throttleEnds", fn := fun _ => fun
  | [d1, d2, d3, d4] => { results := [.lit (.bool true)], args := [d1, d2, d3, d4] }
  | _ => none }
def throttleEndsRow : OpenClaim := { program := "ytaolldhkmnfciaa", sum := "e76d55ed0d8171b19c2a8f423842942b94eec1b1962a27a7a3fb60a0a3d6569d", func := "suture/suturelaw18.ThrottleEnds", spec := "throttleEnds", unfollowed := true, recurses := true, apart := false }
def ThrottleEndsSaid : Prop := throttleEndsRow.holds Try.pinned (OpenSpec.ofChange throttleEndsSpec)

/-- ITS FALSE NEIGHBOUR: 'it returns false'. Refute it at one input. -/
def throttleEndsWrong : ChangeSpec := { name := "throttleEnds", fn := fun _ => fun
  | [d1, d2, d3, d4] => { results := [.lit (.bool false)], args := [d1, d2, d3, d4] }
  | _ => none }
def ThrottleEndsWrongFalsely : Prop := throttleEndsRow.holds Try.pinned (OpenSpec.ofChange throttleEndsWrong)

/- THE SECOND FORM. 'bulk': how many values and letters a reading holds, each counted each time it is reached (what is shared counts as often as it is met; a slice's spare places count too). A statement '..UptoSaid' is the law's where the arguments, and the package variables that the reading takes, are together of bulk at most 1048576: NARROWER than '..Said'. Prove '..Said' where nothing that the law and all that it calls make is longer than what came in: it says more and counts as full. Else prove '..UptoSaid'. A law counts once. -/
mutual
def uptoBulk {H : Type} : DataW H → Nat
  | .lit (.string bytes) => bytes.length + 1
  | .lit _ => 1
  | .nil => 1
  | .ptr d => uptoBulk d + 1
  | .slice elems spare => uptoBulkAll elems + uptoBulkAll spare + 1
  | .agg parts => uptoBulkAll parts + 1
  | .iface _ d => uptoBulk d + 1
  | .map entries => uptoBulkEntries entries + 1
  | .held _ => 1
def uptoBulkAll {H : Type} : List (DataW H) → Nat
  | [] => 0
  | d :: r => uptoBulk d + uptoBulkAll r
def uptoBulkEntries {H : Type} : List (Lit × DataW H) → Nat
  | [] => 0
  | x :: r => uptoBulkEntry x + uptoBulkEntries r
def uptoBulkEntry {H : Type} : Lit × DataW H → Nat
  | (.string bytes, d) => bytes.length + uptoBulk d + 1
  | (_, d) => uptoBulk d + 1
 end
def uptoSmall : (H : Type) → List (DataW H) → Bool := fun _ ds => decide (uptoBulkAll ds ≤ 1048576)
def OpenSpec.upto (s : _root_.Go.ChangeSpec) : _root_.Go.OpenSpec := { _root_.Go.OpenSpec.ofChange s with cond := some uptoSmall }

/-- 'suturelaw18.ThrottleExpires', WHERE WHAT IT READS IS OF BULK AT MOST 1048576: true; the input reads as it did. -/
def throttleExpiresUptoRow : OpenClaim := { program := "ytaolldhkmnfciaa", sum := "e76d55ed0d8171b19c2a8f423842942b94eec1b1962a27a7a3fb60a0a3d6569d", func := "suture/suturelaw18.ThrottleExpires", spec := "throttleExpires", unfollowed := true, recurses := true, apart := false, narrowed := true }
def ThrottleExpiresUptoSaid : Prop := throttleExpiresUptoRow.holds Try.pinned (OpenSpec.upto throttleExpiresSpec)

/-- 'suturelaw18.ThrottleFree', WHERE WHAT IT READS IS OF BULK AT MOST 1048576: true; the input reads as it did. -/
def throttleFreeUptoRow : OpenClaim := { program := "ytaolldhkmnfciaa", sum := "e76d55ed0d8171b19c2a8f423842942b94eec1b1962a27a7a3fb60a0a3d6569d", func := "suture/suturelaw18.ThrottleFree", spec := "throttleFree", unfollowed := true, recurses := true, apart := false, narrowed := true }
def ThrottleFreeUptoSaid : Prop := throttleFreeUptoRow.holds Try.pinned (OpenSpec.upto throttleFreeSpec)

/-- 'suturelaw18.ThrottleChanges', WHERE WHAT IT READS IS OF BULK AT MOST 1048576: true; the input reads as it did. -/
def throttleChangesUptoRow : OpenClaim := { program := "ytaolldhkmnfciaa", sum := "e76d55ed0d8171b19c2a8f423842942b94eec1b1962a27a7a3fb60a0a3d6569d", func := "suture/suturelaw18.ThrottleChanges", spec := "throttleChanges", unfollowed := true, recurses := true, apart := false, narrowed := true }
def ThrottleChangesUptoSaid : Prop := throttleChangesUptoRow.holds Try.pinned (OpenSpec.upto throttleChangesSpec)

/-- 'suturelaw18.ThrottleKeeps', WHERE WHAT IT READS IS OF BULK AT MOST 1048576: true; the input reads as it did. -/
def throttleKeepsUptoRow : OpenClaim := { program := "ytaolldhkmnfciaa", sum := "e76d55ed0d8171b19c2a8f423842942b94eec1b1962a27a7a3fb60a0a3d6569d", func := "suture/suturelaw18.ThrottleKeeps", spec := "throttleKeeps", unfollowed := true, recurses := true, apart := false, narrowed := true }
def ThrottleKeepsUptoSaid : Prop := throttleKeepsUptoRow.holds Try.pinned (OpenSpec.upto throttleKeepsSpec)

/-- 'suturelaw18.ThrottleEnds', WHERE WHAT IT READS IS OF BULK AT MOST 1048576: true; the input reads as it did. -/
def throttleEndsUptoRow : OpenClaim := { program := "ytaolldhkmnfciaa", sum := "e76d55ed0d8171b19c2a8f423842942b94eec1b1962a27a7a3fb60a0a3d6569d", func := "suture/suturelaw18.ThrottleEnds", spec := "throttleEnds", unfollowed := true, recurses := true, apart := false, narrowed := true }
def ThrottleEndsUptoSaid : Prop := throttleEndsUptoRow.holds Try.pinned (OpenSpec.upto throttleEndsSpec)

end Rows
end Go.Proofs.Ytaolldhkmnfciaa
