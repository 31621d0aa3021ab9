/-
  No cell of these rows narrows 'for every input' (looked for: loops, veiled, ifaces, maps, wideKeys, modest, calm, conditions, laid).
  DERIVED. THE GIVEN ROWS OF THIS SEAT. 7 by the template 'for every input the law returns true; each argument reads behind the call as it read before'; 0 by the template 'total and deterministic' (their statements: YtjcklpooaaaglaaGreatTotals.lean).
  GIVEN WITH THE SEED: the statements are not yours to turn. If you find one false, say at which input.
  Laid BY PROGRAM, IN A SANDBOX (cutbox-rows.mjs): the forced cells as the released guide's own fill.sh prints them over the translation 21ed169afed54dca… (all of the seat's roots in one cut). By AI agents, Wed Nov 11 2026. No macro, syntax, notation, axiom, sorry.
-/
import Derived.Test.YtjcklpooaaaglaaGreatChecked
import GoSem.Claim
import GoSem.ClaimJoined
import GoSem.ClaimMapViews
import Derived.JoinedTies
import Derived.KernelRfl
namespace Go.Proofs.YtjcklpooaaaglaaGreat
/- THE CELL 'sum', in the pinned program and in every row, IS THE sha256 OF THE DUMP (.gsa) THAT YtjcklpooaaaglaaGreatProg.lean LOADS. Nothing in Lean hashes anything: it is a label: what it is worth is what the hold of that sum in a sandbox is worth. -/
noncomputable def Tryz.pinned : Pinned := { name := "ytjcklpooaaaglaagreat", sum := "21ed169afed54dca3b2c8a3263df625086978ca0163e4e9c453fde9bf8761dd1", checked := Tryz.checked }
namespace Rows
def none {H : Type} : Left H := { results := [], args := [] }

/-- 'suturelaw21.ControlRounds': WHATEVER THE INPUT: true; the input reads as it did. -/
def controlRoundsSpec : ChangeSpec := { name := "controlRounds", fn := fun _ => fun
  | [d1, d2, d3, d4] => { results := [.lit (.bool true)], args := [d1, d2, d3, d4] }
  | _ => none }
def controlRoundsRow : OpenClaim := { program := "ytjcklpooaaaglaagreat", sum := "21ed169afed54dca3b2c8a3263df625086978ca0163e4e9c453fde9bf8761dd1", func := "suture/suturelaw21.ControlRounds", spec := "controlRounds", inPlace := ["slices.overlaps[suture/api.Load]"], unfollowed := true, recurses := true, apart := false }
def ControlRoundsSaid : Prop := controlRoundsRow.holds Tryz.pinned (OpenSpec.ofChange controlRoundsSpec)

/-- ITS FALSE NEIGHBOUR: 'it returns false'. Refute it at one input. -/
def controlRoundsWrong : ChangeSpec := { name := "controlRounds", fn := fun _ => fun
  | [d1, d2, d3, d4] => { results := [.lit (.bool false)], args := [d1, d2, d3, d4] }
  | _ => none }
def ControlRoundsWrongFalsely : Prop := controlRoundsRow.holds Tryz.pinned (OpenSpec.ofChange controlRoundsWrong)

/-- 'suturelaw21.ControlDrops': WHATEVER THE INPUT: true; the input reads as it did. -/
def controlDropsSpec : ChangeSpec := { name := "controlDrops", fn := fun _ => fun
  | [d1, d2, d3, d4] => { results := [.lit (.bool true)], args := [d1, d2, d3, d4] }
  | _ => none }
def controlDropsRow : OpenClaim := { program := "ytjcklpooaaaglaagreat", sum := "21ed169afed54dca3b2c8a3263df625086978ca0163e4e9c453fde9bf8761dd1", func := "suture/suturelaw21.ControlDrops", spec := "controlDrops", inPlace := ["slices.overlaps[suture/api.Load]"], unfollowed := true, recurses := true, apart := false }
def ControlDropsSaid : Prop := controlDropsRow.holds Tryz.pinned (OpenSpec.ofChange controlDropsSpec)

/-- ITS FALSE NEIGHBOUR: 'it returns false'. Refute it at one input. -/
def controlDropsWrong : ChangeSpec := { name := "controlDrops", fn := fun _ => fun
  | [d1, d2, d3, d4] => { results := [.lit (.bool false)], args := [d1, d2, d3, d4] }
  | _ => none }
def ControlDropsWrongFalsely : Prop := controlDropsRow.holds Tryz.pinned (OpenSpec.ofChange controlDropsWrong)

/-- 'suturelaw21.ControlPass': WHATEVER THE INPUT: true; the input reads as it did. -/
def controlPassSpec : ChangeSpec := { name := "controlPass", fn := fun _ => fun
  | [d1, d2, d3, d4] => { results := [.lit (.bool true)], args := [d1, d2, d3, d4] }
  | _ => none }
def controlPassRow : OpenClaim := { program := "ytjcklpooaaaglaagreat", sum := "21ed169afed54dca3b2c8a3263df625086978ca0163e4e9c453fde9bf8761dd1", func := "suture/suturelaw21.ControlPass", spec := "controlPass", inPlace := ["slices.overlaps[suture/api.Load]"], unfollowed := true, recurses := true, apart := false }
def ControlPassSaid : Prop := controlPassRow.holds Tryz.pinned (OpenSpec.ofChange controlPassSpec)

/-- ITS FALSE NEIGHBOUR: 'it returns false'. Refute it at one input. -/
def controlPassWrong : ChangeSpec := { name := "controlPass", fn := fun _ => fun
  | [d1, d2, d3, d4] => { results := [.lit (.bool false)], args := [d1, d2, d3, d4] }
  | _ => none }
def ControlPassWrongFalsely : Prop := controlPassRow.holds Tryz.pinned (OpenSpec.ofChange controlPassWrong)

/-- 'suturelaw21.ControlIdle': WHATEVER THE INPUT: true; the input reads as it did. -/
def controlIdleSpec : ChangeSpec := { name := "controlIdle", fn := fun _ => fun
  | [d1, d2, d3, d4] => { results := [.lit (.bool true)], args := [d1, d2, d3, d4] }
  | _ => none }
def controlIdleRow : OpenClaim := { program := "ytjcklpooaaaglaagreat", sum := "21ed169afed54dca3b2c8a3263df625086978ca0163e4e9c453fde9bf8761dd1", func := "suture/suturelaw21.ControlIdle", spec := "controlIdle", inPlace := ["slices.overlaps[suture/api.Load]"], unfollowed := true, recurses := true, apart := false }
def ControlIdleSaid : Prop := controlIdleRow.holds Tryz.pinned (OpenSpec.ofChange controlIdleSpec)

/-- ITS FALSE NEIGHBOUR: 'it returns false'. Refute it at one input. -/
def controlIdleWrong : ChangeSpec := { name := "controlIdle", fn := fun _ => fun
  | [d1, d2, d3, d4] => { results := [.lit (.bool false)], args := [d1, d2, d3, d4] }
  | _ => none }
def ControlIdleWrongFalsely : Prop := controlIdleRow.holds Tryz.pinned (OpenSpec.ofChange controlIdleWrong)

/-- 'suturelaw21.ControlCopies': WHATEVER THE INPUT: true; the input reads as it did. -/
def controlCopiesSpec : ChangeSpec := { name := "controlCopies", fn := fun _ => fun
  | [d1, d2, d3, d4] => { results := [.lit (.bool true)], args := [d1, d2, d3, d4] }
  | _ => none }
def controlCopiesRow : OpenClaim := { program := "ytjcklpooaaaglaagreat", sum := "21ed169afed54dca3b2c8a3263df625086978ca0163e4e9c453fde9bf8761dd1", func := "suture/suturelaw21.ControlCopies", spec := "controlCopies", inPlace := ["slices.overlaps[suture/api.Load]"], unfollowed := true, recurses := true, apart := false }
def ControlCopiesSaid : Prop := controlCopiesRow.holds Tryz.pinned (OpenSpec.ofChange controlCopiesSpec)

/-- ITS FALSE NEIGHBOUR: 'it returns false'. Refute it at one input. -/
def controlCopiesWrong : ChangeSpec := { name := "controlCopies", fn := fun _ => fun
  | [d1, d2, d3, d4] => { results := [.lit (.bool false)], args := [d1, d2, d3, d4] }
  | _ => none }
def ControlCopiesWrongFalsely : Prop := controlCopiesRow.holds Tryz.pinned (OpenSpec.ofChange controlCopiesWrong)

/-- 'suturelaw21.ControlQuiet': WHATEVER THE INPUT: true; the input reads as it did. -/
def controlQuietSpec : ChangeSpec := { name := "controlQuiet", fn := fun _ => fun
  | [d1, d2, d3, d4] => { results := [.lit (.bool true)], args := [d1, d2, d3, d4] }
  | _ => none }
def controlQuietRow : OpenClaim := { program := "ytjcklpooaaaglaagreat", sum := "21ed169afed54dca3b2c8a3263df625086978ca0163e4e9c453fde9bf8761dd1", func := "suture/suturelaw21.ControlQuiet", spec := "controlQuiet", inPlace := ["slices.overlaps[suture/api.Load]"], unfollowed := true, recurses := true, apart := false }
def ControlQuietSaid : Prop := controlQuietRow.holds Tryz.pinned (OpenSpec.ofChange controlQuietSpec)

/-- ITS FALSE NEIGHBOUR: 'it returns false'. Refute it at one input. -/
def controlQuietWrong : ChangeSpec := { name := "controlQuiet", fn := fun _ => fun
  | [d1, d2, d3, d4] => { results := [.lit (.bool false)], args := [d1, d2, d3, d4] }
  | _ => none }
def ControlQuietWrongFalsely : Prop := controlQuietRow.holds Tryz.pinned (OpenSpec.ofChange controlQuietWrong)

/-- 'suturelaw21.ControlLimits': WHATEVER THE INPUT: true; the input reads as it did. -/
def controlLimitsSpec : ChangeSpec := { name := "controlLimits", fn := fun _ => fun
  | [d1, d2, d3, d4] => { results := [.lit (.bool true)], args := [d1, d2, d3, d4] }
  | _ => none }
def controlLimitsRow : OpenClaim := { program := "ytjcklpooaaaglaagreat", sum := "21ed169afed54dca3b2c8a3263df625086978ca0163e4e9c453fde9bf8761dd1", func := "suture/suturelaw21.ControlLimits", spec := "controlLimits", inPlace := ["slices.overlaps[suture/api.Load]"], unfollowed := true, recurses := true, apart := false }
def ControlLimitsSaid : Prop := controlLimitsRow.holds Tryz.pinned (OpenSpec.ofChange controlLimitsSpec)

/-- ITS FALSE NEIGHBOUR: 'it returns false'. Refute it at one input. -/
def controlLimitsWrong : ChangeSpec := { name := "controlLimits", fn := fun _ => fun
  | [d1, d2, d3, d4] => { results := [.lit (.bool false)], args := [d1, d2, d3, d4] }
  | _ => none }
def ControlLimitsWrongFalsely : Prop := controlLimitsRow.holds Tryz.pinned (OpenSpec.ofChange controlLimitsWrong)

/- THE SECOND FORM. 'bulk': how many values and letters a reading holds, each counted each time it is reached (what is shared counts as often as it is met; a slice's spare places count too). A statement '..UptoSaid' is the law's where the arguments, and the package variables that the reading takes, are together of bulk at most 1048576: NARROWER than '..Said'. Prove '..Said' where nothing that the law and all that it calls make is longer than what came in: it says more and counts as full. Else prove '..UptoSaid'. A law counts once. -/
mutual
def uptoBulk {H : Type} : DataW H → Nat
  | .lit (.string bytes) => bytes.length + 1
  | .lit _ => 1
  | .nil => 1
  | .ptr d => uptoBulk d + 1
  | .slice elems spare => uptoBulkAll elems + uptoBulkAll spare + 1
  | .agg parts => uptoBulkAll parts + 1
  | .iface _ d => uptoBulk d + 1
  | .map entries => uptoBulkEntries entries + 1
  | .held _ => 1
def uptoBulkAll {H : Type} : List (DataW H) → Nat
  | [] => 0
  | d :: r => uptoBulk d + uptoBulkAll r
def uptoBulkEntries {H : Type} : List (Lit × DataW H) → Nat
  | [] => 0
  | x :: r => uptoBulkEntry x + uptoBulkEntries r
def uptoBulkEntry {H : Type} : Lit × DataW H → Nat
  | (.string bytes, d) => bytes.length + uptoBulk d + 1
  | (_, d) => uptoBulk d + 1
 end
def uptoSmall : (H : Type) → List (DataW H) → Bool := fun _ ds => decide (uptoBulkAll ds ≤ 1048576)
def OpenSpec.upto (s : _root_.Go.ChangeSpec) : _root_.Go.OpenSpec := { _root_.Go.OpenSpec.ofChange s with cond := some uptoSmall }

/-- 'suturelaw21.ControlRounds', WHERE WHAT IT READS IS OF BULK AT MOST 1048576: true; the input reads as it did. -/
def controlRoundsUptoRow : OpenClaim := { program := "ytjcklpooaaaglaagreat", sum := "21ed169afed54dca3b2c8a3263df625086978ca0163e4e9c453fde9bf8761dd1", func := "suture/suturelaw21.ControlRounds", spec := "controlRounds", inPlace := ["slices.overlaps[suture/api.Load]"], unfollowed := true, recurses := true, apart := false, narrowed := true }
def ControlRoundsUptoSaid : Prop := controlRoundsUptoRow.holds Tryz.pinned (OpenSpec.upto controlRoundsSpec)

/-- 'suturelaw21.ControlDrops', WHERE WHAT IT READS IS OF BULK AT MOST 1048576: true; the input reads as it did. -/
def controlDropsUptoRow : OpenClaim := { program := "ytjcklpooaaaglaagreat", sum := "21ed169afed54dca3b2c8a3263df625086978ca0163e4e9c453fde9bf8761dd1", func := "suture/suturelaw21.ControlDrops", spec := "controlDrops", inPlace := ["slices.overlaps[suture/api.Load]"], unfollowed := true, recurses := true, apart := false, narrowed := true }
def ControlDropsUptoSaid : Prop := controlDropsUptoRow.holds Tryz.pinned (OpenSpec.upto controlDropsSpec)

/-- 'suturelaw21.ControlPass', WHERE WHAT IT READS IS OF BULK AT MOST 1048576: true; the input reads as it did. -/
def controlPassUptoRow : OpenClaim := { program := "ytjcklpooaaaglaagreat", sum := "21ed169afed54dca3b2c8a3263df625086978ca0163e4e9c453fde9bf8761dd1", func := "suture/suturelaw21.ControlPass", spec := "controlPass", inPlace := ["slices.overlaps[suture/api.Load]"], unfollowed := true, recurses := true, apart := false, narrowed := true }
def ControlPassUptoSaid : Prop := controlPassUptoRow.holds Tryz.pinned (OpenSpec.upto controlPassSpec)

/-- 'suturelaw21.ControlIdle', WHERE WHAT IT READS IS OF BULK AT MOST 1048576: true; the input reads as it did. -/
def controlIdleUptoRow : OpenClaim := { program := "ytjcklpooaaaglaagreat", sum := "21ed169afed54dca3b2c8a3263df625086978ca0163e4e9c453fde9bf8761dd1", func := "suture/suturelaw21.ControlIdle", spec := "controlIdle", inPlace := ["slices.overlaps[suture/api.Load]"], unfollowed := true, recurses := true, apart := false, narrowed := true }
def ControlIdleUptoSaid : Prop := controlIdleUptoRow.holds Tryz.pinned (OpenSpec.upto controlIdleSpec)

/-- 'suturelaw21.ControlCopies', WHERE WHAT IT READS IS OF BULK AT MOST 1048576: true; the input reads as it did. -/
def controlCopiesUptoRow : OpenClaim := { program := "ytjcklpooaaaglaagreat", sum := "21ed169afed54dca3b2c8a3263df625086978ca0163e4e9c453fde9bf8761dd1", func := "suture/suturelaw21.ControlCopies", spec := "controlCopies", inPlace := ["slices.overlaps[suture/api.Load]"], unfollowed := true, recurses := true, apart := false, narrowed := true }
def ControlCopiesUptoSaid : Prop := controlCopiesUptoRow.holds Tryz.pinned (OpenSpec.upto controlCopiesSpec)

/-- 'suturelaw21.ControlQuiet', WHERE WHAT IT READS IS OF BULK AT MOST 1048576: true; the input reads as it did. -/
def controlQuietUptoRow : OpenClaim := { program := "ytjcklpooaaaglaagreat", sum := "21ed169afed54dca3b2c8a3263df625086978ca0163e4e9c453fde9bf8761dd1", func := "suture/suturelaw21.ControlQuiet", spec := "controlQuiet", inPlace := ["slices.overlaps[suture/api.Load]"], unfollowed := true, recurses := true, apart := false, narrowed := true }
def ControlQuietUptoSaid : Prop := controlQuietUptoRow.holds Tryz.pinned (OpenSpec.upto controlQuietSpec)

/-- 'suturelaw21.ControlLimits', WHERE WHAT IT READS IS OF BULK AT MOST 1048576: true; the input reads as it did. -/
def controlLimitsUptoRow : OpenClaim := { program := "ytjcklpooaaaglaagreat", sum := "21ed169afed54dca3b2c8a3263df625086978ca0163e4e9c453fde9bf8761dd1", func := "suture/suturelaw21.ControlLimits", spec := "controlLimits", inPlace := ["slices.overlaps[suture/api.Load]"], unfollowed := true, recurses := true, apart := false, narrowed := true }
def ControlLimitsUptoSaid : Prop := controlLimitsUptoRow.holds Tryz.pinned (OpenSpec.upto controlLimitsSpec)

end Rows
end Go.Proofs.YtjcklpooaaaglaaGreat
