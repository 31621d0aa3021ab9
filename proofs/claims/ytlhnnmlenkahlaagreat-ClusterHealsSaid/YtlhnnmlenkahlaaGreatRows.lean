/-
  No cell of these rows narrows 'for every input' (looked for: loops, veiled, ifaces, maps, wideKeys, modest, calm, conditions, laid).
  DERIVED. THE GIVEN ROWS OF THIS SEAT. 6 by the template 'for every input the law returns true; each argument reads behind the call as it read before'; 0 by the template 'total and deterministic' (their statements: YtlhnnmlenkahlaaGreatTotals.lean).
  GIVEN WITH THE SEED: the statements are not yours to turn. If you find one false, say at which input.
  Laid BY PROGRAM, IN A SANDBOX (cutbox-rows.mjs): the forced cells as the released guide's own fill.sh prints them over the translation 870d877dd065c829… (all of the seat's roots in one cut). By AI agents, Wed Nov 11 2026. No macro, syntax, notation, axiom, sorry.
-/
import Derived.Test.YtlhnnmlenkahlaaGreatChecked
import GoSem.Claim
import GoSem.ClaimJoined
import GoSem.ClaimMapViews
import Derived.JoinedTies
import Derived.KernelRfl
namespace Go.Proofs.YtlhnnmlenkahlaaGreat
/- THE CELL 'sum', in the pinned program and in every row, IS THE sha256 OF THE DUMP (.gsa) THAT YtlhnnmlenkahlaaGreatProg.lean LOADS. Nothing in Lean hashes anything: it is a label: what it is worth is what the hold of that sum in a sandbox is worth. -/
noncomputable def Tryz.pinned : Pinned := { name := "ytlhnnmlenkahlaagreat", sum := "870d877dd065c82917033c09f9c3ece696bf685aa7ab3b1256657ab05503a17f", checked := Tryz.checked }
namespace Rows
def none {H : Type} : Left H := { results := [], args := [] }

/-- 'suturelaw23.ClusterReads': WHATEVER THE INPUT: true; the input reads as it did. -/
def clusterReadsSpec : ChangeSpec := { name := "clusterReads", fn := fun _ => fun
  | [d1, d2, d3] => { results := [.lit (.bool true)], args := [d1, d2, d3] }
  | _ => none }
def clusterReadsRow : OpenClaim := { program := "ytlhnnmlenkahlaagreat", sum := "870d877dd065c82917033c09f9c3ece696bf685aa7ab3b1256657ab05503a17f", func := "suture/suturelaw23.ClusterReads", spec := "clusterReads", inPlace := ["slices.overlaps[suture/api.Node]", "slices.overlaps[suture/api.Chunk]", "slices.overlaps[int]", "slices.overlaps[suture/api.Session]", "slices.overlaps[suture/api.Load]", "slices.overlaps[suture/api.Replica]", "slices.overlaps[suture/api.Beat]"], unfollowed := true, recurses := true, plainKeys := false, apart := false }
def ClusterReadsSaid : Prop := clusterReadsRow.holds Tryz.pinned (OpenSpec.ofChange clusterReadsSpec)

/-- ITS FALSE NEIGHBOUR: 'it returns false'. Refute it at one input. -/
def clusterReadsWrong : ChangeSpec := { name := "clusterReads", fn := fun _ => fun
  | [d1, d2, d3] => { results := [.lit (.bool false)], args := [d1, d2, d3] }
  | _ => none }
def ClusterReadsWrongFalsely : Prop := clusterReadsRow.holds Tryz.pinned (OpenSpec.ofChange clusterReadsWrong)

/-- 'suturelaw23.ClusterKeeps': WHATEVER THE INPUT: true; the input reads as it did. -/
def clusterKeepsSpec : ChangeSpec := { name := "clusterKeeps", fn := fun _ => fun
  | [d1, d2] => { results := [.lit (.bool true)], args := [d1, d2] }
  | _ => none }
def clusterKeepsRow : OpenClaim := { program := "ytlhnnmlenkahlaagreat", sum := "870d877dd065c82917033c09f9c3ece696bf685aa7ab3b1256657ab05503a17f", func := "suture/suturelaw23.ClusterKeeps", spec := "clusterKeeps", inPlace := ["slices.overlaps[suture/api.Node]", "slices.overlaps[suture/api.Chunk]", "slices.overlaps[int]", "slices.overlaps[suture/api.Session]", "slices.overlaps[suture/api.Load]", "slices.overlaps[suture/api.Replica]", "slices.overlaps[suture/api.Beat]"], unfollowed := true, recurses := true, plainKeys := false, apart := false }
def ClusterKeepsSaid : Prop := clusterKeepsRow.holds Tryz.pinned (OpenSpec.ofChange clusterKeepsSpec)

/-- ITS FALSE NEIGHBOUR: 'it returns false'. Refute it at one input. -/
def clusterKeepsWrong : ChangeSpec := { name := "clusterKeeps", fn := fun _ => fun
  | [d1, d2] => { results := [.lit (.bool false)], args := [d1, d2] }
  | _ => none }
def ClusterKeepsWrongFalsely : Prop := clusterKeepsRow.holds Tryz.pinned (OpenSpec.ofChange clusterKeepsWrong)

/-- 'suturelaw23.ClusterTold': WHATEVER THE INPUT: true; the input reads as it did. -/
def clusterToldSpec : ChangeSpec := { name := "clusterTold", fn := fun _ => fun
  | [d1, d2] => { results := [.lit (.bool true)], args := [d1, d2] }
  | _ => none }
def clusterToldRow : OpenClaim := { program := "ytlhnnmlenkahlaagreat", sum := "870d877dd065c82917033c09f9c3ece696bf685aa7ab3b1256657ab05503a17f", func := "suture/suturelaw23.ClusterTold", spec := "clusterTold", inPlace := ["slices.overlaps[suture/api.Node]", "slices.overlaps[suture/api.Chunk]", "slices.overlaps[int]", "slices.overlaps[suture/api.Session]", "slices.overlaps[suture/api.Load]", "slices.overlaps[suture/api.Replica]", "slices.overlaps[suture/api.Beat]"], unfollowed := true, recurses := true, plainKeys := false, apart := false }
def ClusterToldSaid : Prop := clusterToldRow.holds Tryz.pinned (OpenSpec.ofChange clusterToldSpec)

/-- ITS FALSE NEIGHBOUR: 'it returns false'. Refute it at one input. -/
def clusterToldWrong : ChangeSpec := { name := "clusterTold", fn := fun _ => fun
  | [d1, d2] => { results := [.lit (.bool false)], args := [d1, d2] }
  | _ => none }
def ClusterToldWrongFalsely : Prop := clusterToldRow.holds Tryz.pinned (OpenSpec.ofChange clusterToldWrong)

/-- 'suturelaw23.ClusterDoes': WHATEVER THE INPUT: true; the input reads as it did. -/
def clusterDoesSpec : ChangeSpec := { name := "clusterDoes", fn := fun _ => fun
  | [d1, d2, d3] => { results := [.lit (.bool true)], args := [d1, d2, d3] }
  | _ => none }
def clusterDoesRow : OpenClaim := { program := "ytlhnnmlenkahlaagreat", sum := "870d877dd065c82917033c09f9c3ece696bf685aa7ab3b1256657ab05503a17f", func := "suture/suturelaw23.ClusterDoes", spec := "clusterDoes", inPlace := ["slices.overlaps[suture/api.Node]", "slices.overlaps[suture/api.Chunk]", "slices.overlaps[int]", "slices.overlaps[suture/api.Session]", "slices.overlaps[suture/api.Load]", "slices.overlaps[suture/api.Replica]", "slices.overlaps[suture/api.Beat]"], unfollowed := true, recurses := true, plainKeys := false, apart := false }
def ClusterDoesSaid : Prop := clusterDoesRow.holds Tryz.pinned (OpenSpec.ofChange clusterDoesSpec)

/-- ITS FALSE NEIGHBOUR: 'it returns false'. Refute it at one input. -/
def clusterDoesWrong : ChangeSpec := { name := "clusterDoes", fn := fun _ => fun
  | [d1, d2, d3] => { results := [.lit (.bool false)], args := [d1, d2, d3] }
  | _ => none }
def ClusterDoesWrongFalsely : Prop := clusterDoesRow.holds Tryz.pinned (OpenSpec.ofChange clusterDoesWrong)

/-- 'suturelaw23.ClusterHeals': WHATEVER THE INPUT: true; the input reads as it did. -/
def clusterHealsSpec : ChangeSpec := { name := "clusterHeals", fn := fun _ => fun
  | [d1, d2] => { results := [.lit (.bool true)], args := [d1, d2] }
  | _ => none }
def clusterHealsRow : OpenClaim := { program := "ytlhnnmlenkahlaagreat", sum := "870d877dd065c82917033c09f9c3ece696bf685aa7ab3b1256657ab05503a17f", func := "suture/suturelaw23.ClusterHeals", spec := "clusterHeals", inPlace := ["slices.overlaps[suture/api.Node]", "slices.overlaps[suture/api.Chunk]", "slices.overlaps[int]", "slices.overlaps[suture/api.Session]", "slices.overlaps[suture/api.Load]", "slices.overlaps[suture/api.Replica]", "slices.overlaps[suture/api.Beat]"], unfollowed := true, recurses := true, plainKeys := false, apart := false }
def ClusterHealsSaid : Prop := clusterHealsRow.holds Tryz.pinned (OpenSpec.ofChange clusterHealsSpec)

/-- ITS FALSE NEIGHBOUR: 'it returns false'. Refute it at one input. -/
def clusterHealsWrong : ChangeSpec := { name := "clusterHeals", fn := fun _ => fun
  | [d1, d2] => { results := [.lit (.bool false)], args := [d1, d2] }
  | _ => none }
def ClusterHealsWrongFalsely : Prop := clusterHealsRow.holds Tryz.pinned (OpenSpec.ofChange clusterHealsWrong)

/-- 'suturelaw23.ClusterLimits': WHATEVER THE INPUT: true; the input reads as it did. -/
def clusterLimitsSpec : ChangeSpec := { name := "clusterLimits", fn := fun _ => fun
  | [d1, d2] => { results := [.lit (.bool true)], args := [d1, d2] }
  | _ => none }
def clusterLimitsRow : OpenClaim := { program := "ytlhnnmlenkahlaagreat", sum := "870d877dd065c82917033c09f9c3ece696bf685aa7ab3b1256657ab05503a17f", func := "suture/suturelaw23.ClusterLimits", spec := "clusterLimits", inPlace := ["slices.overlaps[suture/api.Node]", "slices.overlaps[suture/api.Chunk]", "slices.overlaps[int]", "slices.overlaps[suture/api.Session]", "slices.overlaps[suture/api.Load]", "slices.overlaps[suture/api.Replica]", "slices.overlaps[suture/api.Beat]"], unfollowed := true, recurses := true, plainKeys := false, apart := false }
def ClusterLimitsSaid : Prop := clusterLimitsRow.holds Tryz.pinned (OpenSpec.ofChange clusterLimitsSpec)

/-- ITS FALSE NEIGHBOUR: 'it returns false'. Refute it at one input. -/
def clusterLimitsWrong : ChangeSpec := { name := "clusterLimits", fn := fun _ => fun
  | [d1, d2] => { results := [.lit (.bool false)], args := [d1, d2] }
  | _ => none }
def ClusterLimitsWrongFalsely : Prop := clusterLimitsRow.holds Tryz.pinned (OpenSpec.ofChange clusterLimitsWrong)

/- THE SECOND FORM. 'bulk': how many values and letters a reading holds, each counted each time it is reached (what is shared counts as often as it is met; a slice's spare places count too). A statement '..UptoSaid' is the law's where the arguments, and the package variables that the reading takes, are together of bulk at most 1048576: NARROWER than '..Said'. Prove '..Said' where nothing that the law and all that it calls make is longer than what came in: it says more and counts as full. Else prove '..UptoSaid'. A law counts once. -/
mutual
def uptoBulk {H : Type} : DataW H → Nat
  | .lit (.string bytes) => bytes.length + 1
  | .lit _ => 1
  | .nil => 1
  | .ptr d => uptoBulk d + 1
  | .slice elems spare => uptoBulkAll elems + uptoBulkAll spare + 1
  | .agg parts => uptoBulkAll parts + 1
  | .iface _ d => uptoBulk d + 1
  | .map entries => uptoBulkEntries entries + 1
  | .held _ => 1
def uptoBulkAll {H : Type} : List (DataW H) → Nat
  | [] => 0
  | d :: r => uptoBulk d + uptoBulkAll r
def uptoBulkEntries {H : Type} : List (Lit × DataW H) → Nat
  | [] => 0
  | x :: r => uptoBulkEntry x + uptoBulkEntries r
def uptoBulkEntry {H : Type} : Lit × DataW H → Nat
  | (.string bytes, d) => bytes.length + uptoBulk d + 1
  | (_, d) => uptoBulk d + 1
 end
def uptoSmall : (H : Type) → List (DataW H) → Bool := fun _ ds => decide (uptoBulkAll ds ≤ 1048576)
def OpenSpec.upto (s : _root_.Go.ChangeSpec) : _root_.Go.OpenSpec := { _root_.Go.OpenSpec.ofChange s with cond := some uptoSmall }

/-- 'suturelaw23.ClusterReads', WHERE WHAT IT READS IS OF BULK AT MOST 1048576: true; the input reads as it did. -/
def clusterReadsUptoRow : OpenClaim := { program := "ytlhnnmlenkahlaagreat", sum := "870d877dd065c82917033c09f9c3ece696bf685aa7ab3b1256657ab05503a17f", func := "suture/suturelaw23.ClusterReads", spec := "clusterReads", inPlace := ["slices.overlaps[suture/api.Node]", "slices.overlaps[suture/api.Chunk]", "slices.overlaps[int]", "slices.overlaps[suture/api.Session]", "slices.overlaps[suture/api.Load]", "slices.overlaps[suture/api.Replica]", "slices.overlaps[suture/api.Beat]"], unfollowed := true, recurses := true, plainKeys := false, apart := false, narrowed := true }
def ClusterReadsUptoSaid : Prop := clusterReadsUptoRow.holds Tryz.pinned (OpenSpec.upto clusterReadsSpec)

/-- 'suturelaw23.ClusterKeeps', WHERE WHAT IT READS IS OF BULK AT MOST 1048576: true; the input reads as it did. -/
def clusterKeepsUptoRow : OpenClaim := { program := "ytlhnnmlenkahlaagreat", sum := "870d877dd065c82917033c09f9c3ece696bf685aa7ab3b1256657ab05503a17f", func := "suture/suturelaw23.ClusterKeeps", spec := "clusterKeeps", inPlace := ["slices.overlaps[suture/api.Node]", "slices.overlaps[suture/api.Chunk]", "slices.overlaps[int]", "slices.overlaps[suture/api.Session]", "slices.overlaps[suture/api.Load]", "slices.overlaps[suture/api.Replica]", "slices.overlaps[suture/api.Beat]"], unfollowed := true, recurses := true, plainKeys := false, apart := false, narrowed := true }
def ClusterKeepsUptoSaid : Prop := clusterKeepsUptoRow.holds Tryz.pinned (OpenSpec.upto clusterKeepsSpec)

/-- 'suturelaw23.ClusterTold', WHERE WHAT IT READS IS OF BULK AT MOST 1048576: true; the input reads as it did. -/
def clusterToldUptoRow : OpenClaim := { program := "ytlhnnmlenkahlaagreat", sum := "870d877dd065c82917033c09f9c3ece696bf685aa7ab3b1256657ab05503a17f", func := "suture/suturelaw23.ClusterTold", spec := "clusterTold", inPlace := ["slices.overlaps[suture/api.Node]", "slices.overlaps[suture/api.Chunk]", "slices.overlaps[int]", "slices.overlaps[suture/api.Session]", "slices.overlaps[suture/api.Load]", "slices.overlaps[suture/api.Replica]", "slices.overlaps[suture/api.Beat]"], unfollowed := true, recurses := true, plainKeys := false, apart := false, narrowed := true }
def ClusterToldUptoSaid : Prop := clusterToldUptoRow.holds Tryz.pinned (OpenSpec.upto clusterToldSpec)

/-- 'suturelaw23.ClusterDoes', WHERE WHAT IT READS IS OF BULK AT MOST 1048576: true; the input reads as it did. -/
def clusterDoesUptoRow : OpenClaim := { program := "ytlhnnmlenkahlaagreat", sum := "870d877dd065c82917033c09f9c3ece696bf685aa7ab3b1256657ab05503a17f", func := "suture/suturelaw23.ClusterDoes", spec := "clusterDoes", inPlace := ["slices.overlaps[suture/api.Node]", "slices.overlaps[suture/api.Chunk]", "slices.overlaps[int]", "slices.overlaps[suture/api.Session]", "slices.overlaps[suture/api.Load]", "slices.overlaps[suture/api.Replica]", "slices.overlaps[suture/api.Beat]"], unfollowed := true, recurses := true, plainKeys := false, apart := false, narrowed := true }
def ClusterDoesUptoSaid : Prop := clusterDoesUptoRow.holds Tryz.pinned (OpenSpec.upto clusterDoesSpec)

/-- 'suturelaw23.ClusterHeals', WHERE WHAT IT READS IS OF BULK AT MOST 1048576: true; the input reads as it did. -/
def clusterHealsUptoRow : OpenClaim := { program := "ytlhnnmlenkahlaagreat", sum := "870d877dd065c82917033c09f9c3ece696bf685aa7ab3b1256657ab05503a17f", func := "suture/suturelaw23.ClusterHeals", spec := "clusterHeals", inPlace := ["slices.overlaps[suture/api.Node]", "slices.overlaps[suture/api.Chunk]", "slices.overlaps[int]", "slices.overlaps[suture/api.Session]", "slices.overlaps[suture/api.Load]", "slices.overlaps[suture/api.Replica]", "slices.overlaps[suture/api.Beat]"], unfollowed := true, recurses := true, plainKeys := false, apart := false, narrowed := true }
def ClusterHealsUptoSaid : Prop := clusterHealsUptoRow.holds Tryz.pinned (OpenSpec.upto clusterHealsSpec)

/-- 'suturelaw23.ClusterLimits', WHERE WHAT IT READS IS OF BULK AT MOST 1048576: true; the input reads as it did. -/
def clusterLimitsUptoRow : OpenClaim := { program := "ytlhnnmlenkahlaagreat", sum := "870d877dd065c82917033c09f9c3ece696bf685aa7ab3b1256657ab05503a17f", func := "suture/suturelaw23.ClusterLimits", spec := "clusterLimits", inPlace := ["slices.overlaps[suture/api.Node]", "slices.overlaps[suture/api.Chunk]", "slices.overlaps[int]", "slices.overlaps[suture/api.Session]", "slices.overlaps[suture/api.Load]", "slices.overlaps[suture/api.Replica]", "slices.overlaps[suture/api.Beat]"], unfollowed := true, recurses := true, plainKeys := false, apart := false, narrowed := true }
def ClusterLimitsUptoSaid : Prop := clusterLimitsUptoRow.holds Tryz.pinned (OpenSpec.upto clusterLimitsSpec)

end Rows
end Go.Proofs.YtlhnnmlenkahlaaGreat
