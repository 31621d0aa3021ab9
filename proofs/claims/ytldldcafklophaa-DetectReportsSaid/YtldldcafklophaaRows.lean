/-
  No cell of these rows narrows 'for every input' (looked for: loops, veiled, ifaces, maps, wideKeys, modest, calm, conditions, laid).
  DERIVED. THE GIVEN ROWS OF THIS SEAT. 11 by the template 'for every input the law returns true; each argument reads behind the call as it read before'; 0 by the template 'total and deterministic' (their statements: YtldldcafklophaaTotals.lean).
  GIVEN WITH THE SEED: the statements are not yours to turn. If you find one false, say at which input.
  Laid BY PROGRAM, IN A SANDBOX (cutbox-rows.mjs): the forced cells as the released guide's own fill.sh prints them over the translation 9e6e195afd6e5d49… (all of the seat's roots in one cut). By AI agents, Wed Nov 11 2026. No macro, syntax, notation, axiom, sorry.
-/
import Derived.Test.YtldldcafklophaaChecked
import GoSem.Claim
import GoSem.ClaimJoined
import GoSem.ClaimMapViews
import Derived.JoinedTies
import Derived.KernelRfl
namespace Go.Proofs.Ytldldcafklophaa
/- THE CELL 'sum', in the pinned program and in every row, IS THE sha256 OF THE DUMP (.gsa) THAT YtldldcafklophaaProg.lean LOADS. Nothing in Lean hashes anything: it is a label: what it is worth is what the hold of that sum in a sandbox is worth. -/
noncomputable def Try.pinned : Pinned := { name := "ytldldcafklophaa", sum := "9e6e195afd6e5d49d5845500b0675e7570506d23561fa8b667118b408e08b67d", checked := Try.checked }
namespace Rows
def none {H : Type} : Left H := { results := [], args := [] }

/-- 'suturelaw15.DetectHears': WHATEVER THE INPUT: true; the input reads as it did. -/
def detectHearsSpec : ChangeSpec := { name := "detectHears", fn := fun _ => fun
  | [d1, d2, d3, d4, d5, d6] => { results := [.lit (.bool true)], args := [d1, d2, d3, d4, d5, d6] }
  | _ => none }
def detectHearsRow : OpenClaim := { program := "ytldldcafklophaa", sum := "9e6e195afd6e5d49d5845500b0675e7570506d23561fa8b667118b408e08b67d", func := "suture/suturelaw15.DetectHears", spec := "detectHears", inPlace := ["slices.overlaps[suture/api.Beat]"], unfollowed := true, recurses := true, apart := false }
def DetectHearsSaid : Prop := detectHearsRow.holds Try.pinned (OpenSpec.ofChange detectHearsSpec)

/-- ITS FALSE NEIGHBOUR: 'it returns false'. Refute it at one input. -/
def detectHearsWrong : ChangeSpec := { name := "detectHears", fn := fun _ => fun
  | [d1, d2, d3, d4, d5, d6] => { results := [.lit (.bool false)], args := [d1, d2, d3, d4, d5, d6] }
  | _ => none }
def DetectHearsWrongFalsely : Prop := detectHearsRow.holds Try.pinned (OpenSpec.ofChange detectHearsWrong)

/-- 'suturelaw15.DetectOrder': WHATEVER THE INPUT: true; the input reads as it did. -/
def detectOrderSpec : ChangeSpec := { name := "detectOrder", fn := fun _ => fun
  | [d1, d2] => { results := [.lit (.bool true)], args := [d1, d2] }
  | _ => none }
def detectOrderRow : OpenClaim := { program := "ytldldcafklophaa", sum := "9e6e195afd6e5d49d5845500b0675e7570506d23561fa8b667118b408e08b67d", func := "suture/suturelaw15.DetectOrder", spec := "detectOrder", inPlace := ["slices.overlaps[suture/api.Beat]"], unfollowed := true, recurses := true, apart := false }
def DetectOrderSaid : Prop := detectOrderRow.holds Try.pinned (OpenSpec.ofChange detectOrderSpec)

/-- ITS FALSE NEIGHBOUR: 'it returns false'. Refute it at one input. -/
def detectOrderWrong : ChangeSpec := { name := "detectOrder", fn := fun _ => fun
  | [d1, d2] => { results := [.lit (.bool false)], args := [d1, d2] }
  | _ => none }
def DetectOrderWrongFalsely : Prop := detectOrderRow.holds Try.pinned (OpenSpec.ofChange detectOrderWrong)

/-- 'suturelaw15.DetectTells': WHATEVER THE INPUT: true; the input reads as it did. -/
def detectTellsSpec : ChangeSpec := { name := "detectTells", fn := fun _ => fun
  | [d1, d2, d3, d4] => { results := [.lit (.bool true)], args := [d1, d2, d3, d4] }
  | _ => none }
def detectTellsRow : OpenClaim := { program := "ytldldcafklophaa", sum := "9e6e195afd6e5d49d5845500b0675e7570506d23561fa8b667118b408e08b67d", func := "suture/suturelaw15.DetectTells", spec := "detectTells", inPlace := ["slices.overlaps[suture/api.Beat]"], unfollowed := true, recurses := true, apart := false }
def DetectTellsSaid : Prop := detectTellsRow.holds Try.pinned (OpenSpec.ofChange detectTellsSpec)

/-- ITS FALSE NEIGHBOUR: 'it returns false'. Refute it at one input. -/
def detectTellsWrong : ChangeSpec := { name := "detectTells", fn := fun _ => fun
  | [d1, d2, d3, d4] => { results := [.lit (.bool false)], args := [d1, d2, d3, d4] }
  | _ => none }
def DetectTellsWrongFalsely : Prop := detectTellsRow.holds Try.pinned (OpenSpec.ofChange detectTellsWrong)

/-- 'suturelaw15.DetectNext': WHATEVER THE INPUT: true; the input reads as it did. -/
def detectNextSpec : ChangeSpec := { name := "detectNext", fn := fun _ => fun
  | [d1, d2, d3] => { results := [.lit (.bool true)], args := [d1, d2, d3] }
  | _ => none }
def detectNextRow : OpenClaim := { program := "ytldldcafklophaa", sum := "9e6e195afd6e5d49d5845500b0675e7570506d23561fa8b667118b408e08b67d", func := "suture/suturelaw15.DetectNext", spec := "detectNext", inPlace := ["slices.overlaps[suture/api.Beat]"], unfollowed := true, recurses := true, apart := false }
def DetectNextSaid : Prop := detectNextRow.holds Try.pinned (OpenSpec.ofChange detectNextSpec)

/-- ITS FALSE NEIGHBOUR: 'it returns false'. Refute it at one input. -/
def detectNextWrong : ChangeSpec := { name := "detectNext", fn := fun _ => fun
  | [d1, d2, d3] => { results := [.lit (.bool false)], args := [d1, d2, d3] }
  | _ => none }
def DetectNextWrongFalsely : Prop := detectNextRow.holds Try.pinned (OpenSpec.ofChange detectNextWrong)

/-- 'suturelaw13.TableWrites': WHATEVER THE INPUT: true; the input reads as it did. -/
def tableWritesSpec : ChangeSpec := { name := "tableWrites", fn := fun _ => fun
  | [d1, d2, d3, d4] => { results := [.lit (.bool true)], args := [d1, d2, d3, d4] }
  | _ => none }
def tableWritesRow : OpenClaim := { program := "ytldldcafklophaa", sum := "9e6e195afd6e5d49d5845500b0675e7570506d23561fa8b667118b408e08b67d", func := "suture/suturelaw13.TableWrites", spec := "tableWrites", inPlace := ["slices.overlaps[suture/api.Chunk]", "slices.overlaps[int]"], unfollowed := true, recurses := true, apart := false }
def TableWritesSaid : Prop := tableWritesRow.holds Try.pinned (OpenSpec.ofChange tableWritesSpec)

/-- ITS FALSE NEIGHBOUR: 'it returns false'. Refute it at one input. -/
def tableWritesWrong : ChangeSpec := { name := "tableWrites", fn := fun _ => fun
  | [d1, d2, d3, d4] => { results := [.lit (.bool false)], args := [d1, d2, d3, d4] }
  | _ => none }
def TableWritesWrongFalsely : Prop := tableWritesRow.holds Try.pinned (OpenSpec.ofChange tableWritesWrong)

/-- 'suturelaw13.TableTells': WHATEVER THE INPUT: true; the input reads as it did. -/
def tableTellsSpec : ChangeSpec := { name := "tableTells", fn := fun _ => fun
  | [d1, d2, d3] => { results := [.lit (.bool true)], args := [d1, d2, d3] }
  | _ => none }
def tableTellsRow : OpenClaim := { program := "ytldldcafklophaa", sum := "9e6e195afd6e5d49d5845500b0675e7570506d23561fa8b667118b408e08b67d", func := "suture/suturelaw13.TableTells", spec := "tableTells", inPlace := ["slices.overlaps[suture/api.Chunk]", "slices.overlaps[int]"], unfollowed := true, recurses := true, apart := false }
def TableTellsSaid : Prop := tableTellsRow.holds Try.pinned (OpenSpec.ofChange tableTellsSpec)

/-- ITS FALSE NEIGHBOUR: 'it returns false'. Refute it at one input. -/
def tableTellsWrong : ChangeSpec := { name := "tableTells", fn := fun _ => fun
  | [d1, d2, d3] => { results := [.lit (.bool false)], args := [d1, d2, d3] }
  | _ => none }
def TableTellsWrongFalsely : Prop := tableTellsRow.holds Try.pinned (OpenSpec.ofChange tableTellsWrong)

/-- 'suturelaw13.TableDoes': WHATEVER THE INPUT: true; the input reads as it did. -/
def tableDoesSpec : ChangeSpec := { name := "tableDoes", fn := fun _ => fun
  | [d1, d2] => { results := [.lit (.bool true)], args := [d1, d2] }
  | _ => none }
def tableDoesRow : OpenClaim := { program := "ytldldcafklophaa", sum := "9e6e195afd6e5d49d5845500b0675e7570506d23561fa8b667118b408e08b67d", func := "suture/suturelaw13.TableDoes", spec := "tableDoes", inPlace := ["slices.overlaps[suture/api.Chunk]", "slices.overlaps[int]"], unfollowed := true, recurses := true, apart := false }
def TableDoesSaid : Prop := tableDoesRow.holds Try.pinned (OpenSpec.ofChange tableDoesSpec)

/-- ITS FALSE NEIGHBOUR: 'it returns false'. Refute it at one input. -/
def tableDoesWrong : ChangeSpec := { name := "tableDoes", fn := fun _ => fun
  | [d1, d2] => { results := [.lit (.bool false)], args := [d1, d2] }
  | _ => none }
def TableDoesWrongFalsely : Prop := tableDoesRow.holds Try.pinned (OpenSpec.ofChange tableDoesWrong)

/-- 'suturelaw13.TableRises': WHATEVER THE INPUT: true; the input reads as it did. -/
def tableRisesSpec : ChangeSpec := { name := "tableRises", fn := fun _ => fun
  | [d1, d2] => { results := [.lit (.bool true)], args := [d1, d2] }
  | _ => none }
def tableRisesRow : OpenClaim := { program := "ytldldcafklophaa", sum := "9e6e195afd6e5d49d5845500b0675e7570506d23561fa8b667118b408e08b67d", func := "suture/suturelaw13.TableRises", spec := "tableRises", inPlace := ["slices.overlaps[suture/api.Chunk]", "slices.overlaps[int]"], unfollowed := true, recurses := true, apart := false }
def TableRisesSaid : Prop := tableRisesRow.holds Try.pinned (OpenSpec.ofChange tableRisesSpec)

/-- ITS FALSE NEIGHBOUR: 'it returns false'. Refute it at one input. -/
def tableRisesWrong : ChangeSpec := { name := "tableRises", fn := fun _ => fun
  | [d1, d2] => { results := [.lit (.bool false)], args := [d1, d2] }
  | _ => none }
def TableRisesWrongFalsely : Prop := tableRisesRow.holds Try.pinned (OpenSpec.ofChange tableRisesWrong)

/-- 'suturelaw13.TableOf': WHATEVER THE INPUT: true; the input reads as it did. -/
def tableOfSpec : ChangeSpec := { name := "tableOf", fn := fun _ => fun
  | [d1, d2, d3] => { results := [.lit (.bool true)], args := [d1, d2, d3] }
  | _ => none }
def tableOfRow : OpenClaim := { program := "ytldldcafklophaa", sum := "9e6e195afd6e5d49d5845500b0675e7570506d23561fa8b667118b408e08b67d", func := "suture/suturelaw13.TableOf", spec := "tableOf", inPlace := ["slices.overlaps[suture/api.Chunk]", "slices.overlaps[int]"], unfollowed := true, recurses := true, apart := false }
def TableOfSaid : Prop := tableOfRow.holds Try.pinned (OpenSpec.ofChange tableOfSpec)

/-- ITS FALSE NEIGHBOUR: 'it returns false'. Refute it at one input. -/
def tableOfWrong : ChangeSpec := { name := "tableOf", fn := fun _ => fun
  | [d1, d2, d3] => { results := [.lit (.bool false)], args := [d1, d2, d3] }
  | _ => none }
def TableOfWrongFalsely : Prop := tableOfRow.holds Try.pinned (OpenSpec.ofChange tableOfWrong)

/-- 'suturelaw13.TableClaims': WHATEVER THE INPUT: true; the input reads as it did. -/
def tableClaimsSpec : ChangeSpec := { name := "tableClaims", fn := fun _ => fun
  | [d1, d2, d3, d4] => { results := [.lit (.bool true)], args := [d1, d2, d3, d4] }
  | _ => none }
def tableClaimsRow : OpenClaim := { program := "ytldldcafklophaa", sum := "9e6e195afd6e5d49d5845500b0675e7570506d23561fa8b667118b408e08b67d", func := "suture/suturelaw13.TableClaims", spec := "tableClaims", inPlace := ["slices.overlaps[suture/api.Chunk]", "slices.overlaps[int]"], unfollowed := true, recurses := true, apart := false }
def TableClaimsSaid : Prop := tableClaimsRow.holds Try.pinned (OpenSpec.ofChange tableClaimsSpec)

/-- ITS FALSE NEIGHBOUR: 'it returns false'. Refute it at one input. -/
def tableClaimsWrong : ChangeSpec := { name := "tableClaims", fn := fun _ => fun
  | [d1, d2, d3, d4] => { results := [.lit (.bool false)], args := [d1, d2, d3, d4] }
  | _ => none }
def TableClaimsWrongFalsely : Prop := tableClaimsRow.holds Try.pinned (OpenSpec.ofChange tableClaimsWrong)

/-- 'suturelaw15.DetectReports': WHATEVER THE INPUT: true; the input reads as it did. -/
def detectReportsSpec : ChangeSpec := { name := "detectReports", fn := fun _ => fun
  | [d1, d2, d3] => { results := [.lit (.bool true)], args := [d1, d2, d3] }
  | _ => none }
def detectReportsRow : OpenClaim := { program := "ytldldcafklophaa", sum := "9e6e195afd6e5d49d5845500b0675e7570506d23561fa8b667118b408e08b67d", func := "suture/suturelaw15.DetectReports", spec := "detectReports", inPlace := ["slices.overlaps[suture/api.Beat]"], unfollowed := true, recurses := true, apart := false }
def DetectReportsSaid : Prop := detectReportsRow.holds Try.pinned (OpenSpec.ofChange detectReportsSpec)

/-- ITS FALSE NEIGHBOUR: 'it returns false'. Refute it at one input. -/
def detectReportsWrong : ChangeSpec := { name := "detectReports", fn := fun _ => fun
  | [d1, d2, d3] => { results := [.lit (.bool false)], args := [d1, d2, d3] }
  | _ => none }
def DetectReportsWrongFalsely : Prop := detectReportsRow.holds Try.pinned (OpenSpec.ofChange detectReportsWrong)

/- THE SECOND FORM. 'bulk': how many values and letters a reading holds, each counted each time it is reached (what is shared counts as often as it is met; a slice's spare places count too). A statement '..UptoSaid' is the law's where the arguments, and the package variables that the reading takes, are together of bulk at most 1048576: NARROWER than '..Said'. Prove '..Said' where nothing that the law and all that it calls make is longer than what came in: it says more and counts as full. Else prove '..UptoSaid'. A law counts once. -/
mutual
def uptoBulk {H : Type} : DataW H → Nat
  | .lit (.string bytes) => bytes.length + 1
  | .lit _ => 1
  | .nil => 1
  | .ptr d => uptoBulk d + 1
  | .slice elems spare => uptoBulkAll elems + uptoBulkAll spare + 1
  | .agg parts => uptoBulkAll parts + 1
  | .iface _ d => uptoBulk d + 1
  | .map entries => uptoBulkEntries entries + 1
  | .held _ => 1
def uptoBulkAll {H : Type} : List (DataW H) → Nat
  | [] => 0
  | d :: r => uptoBulk d + uptoBulkAll r
def uptoBulkEntries {H : Type} : List (Lit × DataW H) → Nat
  | [] => 0
  | x :: r => uptoBulkEntry x + uptoBulkEntries r
def uptoBulkEntry {H : Type} : Lit × DataW H → Nat
  | (.string bytes, d) => bytes.length + uptoBulk d + 1
  | (_, d) => uptoBulk d + 1
 end
def uptoSmall : (H : Type) → List (DataW H) → Bool := fun _ ds => decide (uptoBulkAll ds ≤ 1048576)
def OpenSpec.upto (s : _root_.Go.ChangeSpec) : _root_.Go.OpenSpec := { _root_.Go.OpenSpec.ofChange s with cond := some uptoSmall }

/-- 'suturelaw15.DetectHears', WHERE WHAT IT READS IS OF BULK AT MOST 1048576: true; the input reads as it did. -/
def detectHearsUptoRow : OpenClaim := { program := "ytldldcafklophaa", sum := "9e6e195afd6e5d49d5845500b0675e7570506d23561fa8b667118b408e08b67d", func := "suture/suturelaw15.DetectHears", spec := "detectHears", inPlace := ["slices.overlaps[suture/api.Beat]"], unfollowed := true, recurses := true, apart := false, narrowed := true }
def DetectHearsUptoSaid : Prop := detectHearsUptoRow.holds Try.pinned (OpenSpec.upto detectHearsSpec)

/-- 'suturelaw15.DetectOrder', WHERE WHAT IT READS IS OF BULK AT MOST 1048576: true; the input reads as it did. -/
def detectOrderUptoRow : OpenClaim := { program := "ytldldcafklophaa", sum := "9e6e195afd6e5d49d5845500b0675e7570506d23561fa8b667118b408e08b67d", func := "suture/suturelaw15.DetectOrder", spec := "detectOrder", inPlace := ["slices.overlaps[suture/api.Beat]"], unfollowed := true, recurses := true, apart := false, narrowed := true }
def DetectOrderUptoSaid : Prop := detectOrderUptoRow.holds Try.pinned (OpenSpec.upto detectOrderSpec)

/-- 'suturelaw15.DetectTells', WHERE WHAT IT READS IS OF BULK AT MOST 1048576: true; the input reads as it did. -/
def detectTellsUptoRow : OpenClaim := { program := "ytldldcafklophaa", sum := "9e6e195afd6e5d49d5845500b0675e7570506d23561fa8b667118b408e08b67d", func := "suture/suturelaw15.DetectTells", spec := "detectTells", inPlace := ["slices.overlaps[suture/api.Beat]"], unfollowed := true, recurses := true, apart := false, narrowed := true }
def DetectTellsUptoSaid : Prop := detectTellsUptoRow.holds Try.pinned (OpenSpec.upto detectTellsSpec)

/-- 'suturelaw15.DetectNext', WHERE WHAT IT READS IS OF BULK AT MOST 1048576: true; the input reads as it did. -/
def detectNextUptoRow : OpenClaim := { program := "ytldldcafklophaa", sum := "9e6e195afd6e5d49d5845500b0675e7570506d23561fa8b667118b408e08b67d", func := "suture/suturelaw15.DetectNext", spec := "detectNext", inPlace := ["slices.overlaps[suture/api.Beat]"], unfollowed := true, recurses := true, apart := false, narrowed := true }
def DetectNextUptoSaid : Prop := detectNextUptoRow.holds Try.pinned (OpenSpec.upto detectNextSpec)

/-- 'suturelaw13.TableWrites', WHERE WHAT IT READS IS OF BULK AT MOST 1048576: true; the input reads as it did. -/
def tableWritesUptoRow : OpenClaim := { program := "ytldldcafklophaa", sum := "9e6e195afd6e5d49d5845500b0675e7570506d23561fa8b667118b408e08b67d", func := "suture/suturelaw13.TableWrites", spec := "tableWrites", inPlace := ["slices.overlaps[suture/api.Chunk]", "slices.overlaps[int]"], unfollowed := true, recurses := true, apart := false, narrowed := true }
def TableWritesUptoSaid : Prop := tableWritesUptoRow.holds Try.pinned (OpenSpec.upto tableWritesSpec)

/-- 'suturelaw13.TableTells', WHERE WHAT IT READS IS OF BULK AT MOST 1048576: true; the input reads as it did. -/
def tableTellsUptoRow : OpenClaim := { program := "ytldldcafklophaa", sum := "9e6e195afd6e5d49d5845500b0675e7570506d23561fa8b667118b408e08b67d", func := "suture/suturelaw13.TableTells", spec := "tableTells", inPlace := ["slices.overlaps[suture/api.Chunk]", "slices.overlaps[int]"], unfollowed := true, recurses := true, apart := false, narrowed := true }
def TableTellsUptoSaid : Prop := tableTellsUptoRow.holds Try.pinned (OpenSpec.upto tableTellsSpec)

/-- 'suturelaw13.TableDoes', WHERE WHAT IT READS IS OF BULK AT MOST 1048576: true; the input reads as it did. -/
def tableDoesUptoRow : OpenClaim := { program := "ytldldcafklophaa", sum := "9e6e195afd6e5d49d5845500b0675e7570506d23561fa8b667118b408e08b67d", func := "suture/suturelaw13.TableDoes", spec := "tableDoes", inPlace := ["slices.overlaps[suture/api.Chunk]", "slices.overlaps[int]"], unfollowed := true, recurses := true, apart := false, narrowed := true }
def TableDoesUptoSaid : Prop := tableDoesUptoRow.holds Try.pinned (OpenSpec.upto tableDoesSpec)

/-- 'suturelaw13.TableRises', WHERE WHAT IT READS IS OF BULK AT MOST 1048576: true; the input reads as it did. -/
def tableRisesUptoRow : OpenClaim := { program := "ytldldcafklophaa", sum := "9e6e195afd6e5d49d5845500b0675e7570506d23561fa8b667118b408e08b67d", func := "suture/suturelaw13.TableRises", spec := "tableRises", inPlace := ["slices.overlaps[suture/api.Chunk]", "slices.overlaps[int]"], unfollowed := true, recurses := true, apart := false, narrowed := true }
def TableRisesUptoSaid : Prop := tableRisesUptoRow.holds Try.pinned (OpenSpec.upto tableRisesSpec)

/-- 'suturelaw13.TableOf', WHERE WHAT IT READS IS OF BULK AT MOST 1048576: true; the input reads as it did. -/
def tableOfUptoRow : OpenClaim := { program := "ytldldcafklophaa", sum := "9e6e195afd6e5d49d5845500b0675e7570506d23561fa8b667118b408e08b67d", func := "suture/suturelaw13.TableOf", spec := "tableOf", inPlace := ["slices.overlaps[suture/api.Chunk]", "slices.overlaps[int]"], unfollowed := true, recurses := true, apart := false, narrowed := true }
def TableOfUptoSaid : Prop := tableOfUptoRow.holds Try.pinned (OpenSpec.upto tableOfSpec)

/-- 'suturelaw13.TableClaims', WHERE WHAT IT READS IS OF BULK AT MOST 1048576: true; the input reads as it did. -/
def tableClaimsUptoRow : OpenClaim := { program := "ytldldcafklophaa", sum := "9e6e195afd6e5d49d5845500b0675e7570506d23561fa8b667118b408e08b67d", func := "suture/suturelaw13.TableClaims", spec := "tableClaims", inPlace := ["slices.overlaps[suture/api.Chunk]", "slices.overlaps[int]"], unfollowed := true, recurses := true, apart := false, narrowed := true }
def TableClaimsUptoSaid : Prop := tableClaimsUptoRow.holds Try.pinned (OpenSpec.upto tableClaimsSpec)

/-- 'suturelaw15.DetectReports', WHERE WHAT IT READS IS OF BULK AT MOST 1048576: true; the input reads as it did. -/
def detectReportsUptoRow : OpenClaim := { program := "ytldldcafklophaa", sum := "9e6e195afd6e5d49d5845500b0675e7570506d23561fa8b667118b408e08b67d", func := "suture/suturelaw15.DetectReports", spec := "detectReports", inPlace := ["slices.overlaps[suture/api.Beat]"], unfollowed := true, recurses := true, apart := false, narrowed := true }
def DetectReportsUptoSaid : Prop := detectReportsUptoRow.holds Try.pinned (OpenSpec.upto detectReportsSpec)

end Rows
end Go.Proofs.Ytldldcafklophaa
