/-
  No cell of these rows narrows 'for every input' (looked for: loops, veiled, ifaces, maps, wideKeys, modest, calm, conditions, laid).
  DERIVED. THE GIVEN ROWS OF THIS SEAT. 5 by the template 'for every input the law returns true; each argument reads behind the call as it read before'; 0 by the template 'total and deterministic' (their statements: YtcpdiggjdmefbaaGreatTotals.lean).
  GIVEN WITH THE SEED: the statements are not yours to turn. If you find one false, say at which input.
  Laid BY PROGRAM, IN A SANDBOX (cutbox-rows.mjs): the forced cells as the released guide's own fill.sh prints them over the translation b54869d069a15997… (all of the seat's roots in one cut). By AI agents, Wed Nov 11 2026. No macro, syntax, notation, axiom, sorry.
-/
import Derived.Test.YtcpdiggjdmefbaaGreatChecked
import GoSem.Claim
import GoSem.ClaimJoined
import GoSem.ClaimMapViews
import Derived.JoinedTies
import Derived.KernelRfl
namespace Go.Proofs.YtcpdiggjdmefbaaGreat
/- THE CELL 'sum', in the pinned program and in every row, IS THE sha256 OF THE DUMP (.gsa) THAT YtcpdiggjdmefbaaGreatProg.lean LOADS. Nothing in Lean hashes anything: it is a label: what it is worth is what the hold of that sum in a sandbox is worth. -/
noncomputable def Tryz.pinned : Pinned := { name := "ytcpdiggjdmefbaagreat", sum := "b54869d069a1599786f9616491045717d5c4a8b7a6f8b0565cd6156cb715309d", checked := Tryz.checked }
namespace Rows
def none {H : Type} : Left H := { results := [], args := [] }

/-- 'suturelaw14.MetaApplies': WHATEVER THE INPUT: true; the input reads as it did. -/
def metaAppliesSpec : ChangeSpec := { name := "metaApplies", fn := fun _ => fun
  | [d1, d2] => { results := [.lit (.bool true)], args := [d1, d2] }
  | _ => none }
def metaAppliesRow : OpenClaim := { program := "ytcpdiggjdmefbaagreat", sum := "b54869d069a1599786f9616491045717d5c4a8b7a6f8b0565cd6156cb715309d", func := "suture/suturelaw14.MetaApplies", spec := "metaApplies", inPlace := ["slices.overlaps[suture/api.Node]", "slices.overlaps[suture/api.Chunk]", "slices.overlaps[int]", "slices.overlaps[suture/api.Session]"], unfollowed := true, recurses := true, apart := false }
def MetaAppliesSaid : Prop := metaAppliesRow.holds Tryz.pinned (OpenSpec.ofChange metaAppliesSpec)

/-- ITS FALSE NEIGHBOUR: 'it returns false'. Refute it at one input. -/
def metaAppliesWrong : ChangeSpec := { name := "metaApplies", fn := fun _ => fun
  | [d1, d2] => { results := [.lit (.bool false)], args := [d1, d2] }
  | _ => none }
def MetaAppliesWrongFalsely : Prop := metaAppliesRow.holds Tryz.pinned (OpenSpec.ofChange metaAppliesWrong)

/-- 'suturelaw14.MetaRuns': WHATEVER THE INPUT: true; the input reads as it did. -/
def metaRunsSpec : ChangeSpec := { name := "metaRuns", fn := fun _ => fun
  | [d] => { results := [.lit (.bool true)], args := [d] }
  | _ => none }
def metaRunsRow : OpenClaim := { program := "ytcpdiggjdmefbaagreat", sum := "b54869d069a1599786f9616491045717d5c4a8b7a6f8b0565cd6156cb715309d", func := "suture/suturelaw14.MetaRuns", spec := "metaRuns", inPlace := ["slices.overlaps[suture/api.Node]", "slices.overlaps[suture/api.Chunk]", "slices.overlaps[int]", "slices.overlaps[suture/api.Session]"], unfollowed := true, recurses := true, apart := false }
def MetaRunsSaid : Prop := metaRunsRow.holds Tryz.pinned (OpenSpec.ofChange metaRunsSpec)

/-- ITS FALSE NEIGHBOUR: 'it returns false'. Refute it at one input. -/
def metaRunsWrong : ChangeSpec := { name := "metaRuns", fn := fun _ => fun
  | [d] => { results := [.lit (.bool false)], args := [d] }
  | _ => none }
def MetaRunsWrongFalsely : Prop := metaRunsRow.holds Tryz.pinned (OpenSpec.ofChange metaRunsWrong)

/-- 'suturelaw14.MetaOnce': WHATEVER THE INPUT: true; the input reads as it did. -/
def metaOnceSpec : ChangeSpec := { name := "metaOnce", fn := fun _ => fun
  | [d1, d2, d3] => { results := [.lit (.bool true)], args := [d1, d2, d3] }
  | _ => none }
def metaOnceRow : OpenClaim := { program := "ytcpdiggjdmefbaagreat", sum := "b54869d069a1599786f9616491045717d5c4a8b7a6f8b0565cd6156cb715309d", func := "suture/suturelaw14.MetaOnce", spec := "metaOnce", inPlace := ["slices.overlaps[suture/api.Node]", "slices.overlaps[suture/api.Chunk]", "slices.overlaps[int]", "slices.overlaps[suture/api.Session]"], unfollowed := true, recurses := true, apart := false }
def MetaOnceSaid : Prop := metaOnceRow.holds Tryz.pinned (OpenSpec.ofChange metaOnceSpec)

/-- ITS FALSE NEIGHBOUR: 'it returns false'. Refute it at one input. -/
def metaOnceWrong : ChangeSpec := { name := "metaOnce", fn := fun _ => fun
  | [d1, d2, d3] => { results := [.lit (.bool false)], args := [d1, d2, d3] }
  | _ => none }
def MetaOnceWrongFalsely : Prop := metaOnceRow.holds Tryz.pinned (OpenSpec.ofChange metaOnceWrong)

/-- 'suturelaw14.MetaParts': WHATEVER THE INPUT: true; the input reads as it did. -/
def metaPartsSpec : ChangeSpec := { name := "metaParts", fn := fun _ => fun
  | [d1, d2, d3] => { results := [.lit (.bool true)], args := [d1, d2, d3] }
  | _ => none }
def metaPartsRow : OpenClaim := { program := "ytcpdiggjdmefbaagreat", sum := "b54869d069a1599786f9616491045717d5c4a8b7a6f8b0565cd6156cb715309d", func := "suture/suturelaw14.MetaParts", spec := "metaParts", inPlace := ["slices.overlaps[suture/api.Node]", "slices.overlaps[suture/api.Chunk]", "slices.overlaps[int]", "slices.overlaps[suture/api.Session]"], unfollowed := true, recurses := true, apart := false }
def MetaPartsSaid : Prop := metaPartsRow.holds Tryz.pinned (OpenSpec.ofChange metaPartsSpec)

/-- ITS FALSE NEIGHBOUR: 'it returns false'. Refute it at one input. -/
def metaPartsWrong : ChangeSpec := { name := "metaParts", fn := fun _ => fun
  | [d1, d2, d3] => { results := [.lit (.bool false)], args := [d1, d2, d3] }
  | _ => none }
def MetaPartsWrongFalsely : Prop := metaPartsRow.holds Tryz.pinned (OpenSpec.ofChange metaPartsWrong)

/-- 'suturelaw14.MetaRefuses': WHATEVER THE INPUT: true; the input reads as it did. -/
def metaRefusesSpec : ChangeSpec := { name := "metaRefuses", fn := fun _ => fun
  | [d1, d2] => { results := [.lit (.bool true)], args := [d1, d2] }
  | _ => none }
def metaRefusesRow : OpenClaim := { program := "ytcpdiggjdmefbaagreat", sum := "b54869d069a1599786f9616491045717d5c4a8b7a6f8b0565cd6156cb715309d", func := "suture/suturelaw14.MetaRefuses", spec := "metaRefuses", inPlace := ["slices.overlaps[suture/api.Node]", "slices.overlaps[suture/api.Chunk]", "slices.overlaps[int]", "slices.overlaps[suture/api.Session]"], unfollowed := true, recurses := true, apart := false }
def MetaRefusesSaid : Prop := metaRefusesRow.holds Tryz.pinned (OpenSpec.ofChange metaRefusesSpec)

/-- ITS FALSE NEIGHBOUR: 'it returns false'. Refute it at one input. -/
def metaRefusesWrong : ChangeSpec := { name := "metaRefuses", fn := fun _ => fun
  | [d1, d2] => { results := [.lit (.bool false)], args := [d1, d2] }
  | _ => none }
def MetaRefusesWrongFalsely : Prop := metaRefusesRow.holds Tryz.pinned (OpenSpec.ofChange metaRefusesWrong)

/- THE SECOND FORM. 'bulk': how many values and letters a reading holds, each counted each time it is reached (what is shared counts as often as it is met; a slice's spare places count too). A statement '..UptoSaid' is the law's where the arguments, and the package variables that the reading takes, are together of bulk at most 1048576: NARROWER than '..Said'. Prove '..Said' where nothing that the law and all that it calls make is longer than what came in: it says more and counts as full. Else prove '..UptoSaid'. A law counts once. -/
mutual
def uptoBulk {H : Type} : DataW H → Nat
  | .lit (.string bytes) => bytes.length + 1
  | .lit _ => 1
  | .nil => 1
  | .ptr d => uptoBulk d + 1
  | .slice elems spare => uptoBulkAll elems + uptoBulkAll spare + 1
  | .agg parts => uptoBulkAll parts + 1
  | .iface _ d => uptoBulk d + 1
  | .map entries => uptoBulkEntries entries + 1
  | .held _ => 1
def uptoBulkAll {H : Type} : List (DataW H) → Nat
  | [] => 0
  | d :: r => uptoBulk d + uptoBulkAll r
def uptoBulkEntries {H : Type} : List (Lit × DataW H) → Nat
  | [] => 0
  | x :: r => uptoBulkEntry x + uptoBulkEntries r
def uptoBulkEntry {H : Type} : Lit × DataW H → Nat
  | (.string bytes, d) => bytes.length + uptoBulk d + 1
  | (_, d) => uptoBulk d + 1
 end
def uptoSmall : (H : Type) → List (DataW H) → Bool := fun _ ds => decide (uptoBulkAll ds ≤ 1048576)
def OpenSpec.upto (s : _root_.Go.ChangeSpec) : _root_.Go.OpenSpec := { _root_.Go.OpenSpec.ofChange s with cond := some uptoSmall }

/-- 'suturelaw14.MetaApplies', WHERE WHAT IT READS IS OF BULK AT MOST 1048576: true; the input reads as it did. -/
def metaAppliesUptoRow : OpenClaim := { program := "ytcpdiggjdmefbaagreat", sum := "b54869d069a1599786f9616491045717d5c4a8b7a6f8b0565cd6156cb715309d", func := "suture/suturelaw14.MetaApplies", spec := "metaApplies", inPlace := ["slices.overlaps[suture/api.Node]", "slices.overlaps[suture/api.Chunk]", "slices.overlaps[int]", "slices.overlaps[suture/api.Session]"], unfollowed := true, recurses := true, apart := false, narrowed := true }
def MetaAppliesUptoSaid : Prop := metaAppliesUptoRow.holds Tryz.pinned (OpenSpec.upto metaAppliesSpec)

/-- 'suturelaw14.MetaRuns', WHERE WHAT IT READS IS OF BULK AT MOST 1048576: true; the input reads as it did. -/
def metaRunsUptoRow : OpenClaim := { program := "ytcpdiggjdmefbaagreat", sum := "b54869d069a1599786f9616491045717d5c4a8b7a6f8b0565cd6156cb715309d", func := "suture/suturelaw14.MetaRuns", spec := "metaRuns", inPlace := ["slices.overlaps[suture/api.Node]", "slices.overlaps[suture/api.Chunk]", "slices.overlaps[int]", "slices.overlaps[suture/api.Session]"], unfollowed := true, recurses := true, apart := false, narrowed := true }
def MetaRunsUptoSaid : Prop := metaRunsUptoRow.holds Tryz.pinned (OpenSpec.upto metaRunsSpec)

/-- 'suturelaw14.MetaOnce', WHERE WHAT IT READS IS OF BULK AT MOST 1048576: true; the input reads as it did. -/
def metaOnceUptoRow : OpenClaim := { program := "ytcpdiggjdmefbaagreat", sum := "b54869d069a1599786f9616491045717d5c4a8b7a6f8b0565cd6156cb715309d", func := "suture/suturelaw14.MetaOnce", spec := "metaOnce", inPlace := ["slices.overlaps[suture/api.Node]", "slices.overlaps[suture/api.Chunk]", "slices.overlaps[int]", "slices.overlaps[suture/api.Session]"], unfollowed := true, recurses := true, apart := false, narrowed := true }
def MetaOnceUptoSaid : Prop := metaOnceUptoRow.holds Tryz.pinned (OpenSpec.upto metaOnceSpec)

/-- 'suturelaw14.MetaParts', WHERE WHAT IT READS IS OF BULK AT MOST 1048576: true; the input reads as it did. -/
def metaPartsUptoRow : OpenClaim := { program := "ytcpdiggjdmefbaagreat", sum := "b54869d069a1599786f9616491045717d5c4a8b7a6f8b0565cd6156cb715309d", func := "suture/suturelaw14.MetaParts", spec := "metaParts", inPlace := ["slices.overlaps[suture/api.Node]", "slices.overlaps[suture/api.Chunk]", "slices.overlaps[int]", "slices.overlaps[suture/api.Session]"], unfollowed := true, recurses := true, apart := false, narrowed := true }
def MetaPartsUptoSaid : Prop := metaPartsUptoRow.holds Tryz.pinned (OpenSpec.upto metaPartsSpec)

/-- 'suturelaw14.MetaRefuses', WHERE WHAT IT READS IS OF BULK AT MOST 1048576: true; the input reads as it did. -/
def metaRefusesUptoRow : OpenClaim := { program := "ytcpdiggjdmefbaagreat", sum := "b54869d069a1599786f9616491045717d5c4a8b7a6f8b0565cd6156cb715309d", func := "suture/suturelaw14.MetaRefuses", spec := "metaRefuses", inPlace := ["slices.overlaps[suture/api.Node]", "slices.overlaps[suture/api.Chunk]", "slices.overlaps[int]", "slices.overlaps[suture/api.Session]"], unfollowed := true, recurses := true, apart := false, narrowed := true }
def MetaRefusesUptoSaid : Prop := metaRefusesUptoRow.holds Tryz.pinned (OpenSpec.upto metaRefusesSpec)

end Rows
end Go.Proofs.YtcpdiggjdmefbaaGreat
