/-
  NARROWER THAN 'FOR EVERY INPUT', by the rows' own cells (each row's printed sentence says how): MotiveCounts: laid · MotiveClosed: laid.
  DERIVED. THE GIVEN ROWS OF THIS SEAT. 2 by the template 'for every input the law returns true; each argument reads behind the call as it read before'; 0 by the template 'total and deterministic' (their statements: YtpfmnpaifchleaaGreatDoorTotals.lean).
  GIVEN WITH THE SEED: the statements are not yours to turn. If you find one false, say at which input.
  Laid BY PROGRAM, IN A SANDBOX (cutbox-rows.mjs): the forced cells as the released guide's own fill.sh prints them over the translation f09716c223303ec3… (all of the seat's roots in one cut). By AI agents, Wed Nov 11 2026. No macro, syntax, notation, axiom, sorry.
-/
import Derived.Test.YtpfmnpaifchleaaGreatDoorChecked
import GoSem.Claim
import GoSem.ClaimJoined
import GoSem.ClaimMapViews
import Derived.JoinedTies
import Derived.KernelRfl
namespace Go.Proofs.YtpfmnpaifchleaaGreatDoor
/- THE CELL 'sum', in the pinned program and in every row, IS THE sha256 OF THE DUMP (.gsa) THAT YtpfmnpaifchleaaGreatDoorProg.lean LOADS. Nothing in Lean hashes anything: it is a label: what it is worth is what the hold of that sum in a sandbox is worth. -/
noncomputable def Tryz.pinned : Pinned := { name := "ytpfmnpaifchleaagreatdoor", sum := "f09716c223303ec3401119e8d0e288a2dd82209979dcd9e6bd80bc1853d286c3", checked := Tryz.checked }
namespace Rows
def none {H : Type} : Left H := { results := [], args := [] }

/- WHAT THE LISTED PACKAGE-LEVEL VARIABLES READ AS WHEN THE CALL BEGINS. Each datum BY PROGRAM (the guide's laid-datum.mjs) off the statement by which the dump's own 'gosem.cut.vars' lays the variable. In a bare row this is a premise. The card (YtpfmnpaifchleaaGreatDoorCards.lean) ties it to the program's text. -/
def laid_cornice_term_shapes {H : Type} : DataW H := .agg [.agg [.nil, .lit (.bool true), .lit (.bool false), .lit (.bool false)], .agg [.nil, .lit (.bool false), .lit (.bool false), .lit (.bool true)], .agg [.nil, .lit (.bool true), .lit (.bool false), .lit (.bool false)], .agg [.slice [.lit (.int .i64 0), .lit (.int .i64 1)] [], .lit (.bool true), .lit (.bool false), .lit (.bool false)], .agg [.slice [.lit (.int .i64 0), .lit (.int .i64 1)] [], .lit (.bool false), .lit (.bool false), .lit (.bool false)], .agg [.slice [.lit (.int .i64 0), .lit (.int .i64 0)] [], .lit (.bool false), .lit (.bool false), .lit (.bool false)], .agg [.slice [.lit (.int .i64 0), .lit (.int .i64 1)] [], .lit (.bool true), .lit (.bool false), .lit (.bool false)], .agg [.slice [.lit (.int .i64 0), .lit (.int .i64 0), .lit (.int .i64 0)] [], .lit (.bool false), .lit (.bool false), .lit (.bool false)], .agg [.slice [.lit (.int .i64 0)] [], .lit (.bool false), .lit (.bool false), .lit (.bool false)], .agg [.slice [.lit (.int .i64 0)] [], .lit (.bool false), .lit (.bool false), .lit (.bool false)], .agg [.nil, .lit (.bool false), .lit (.bool false), .lit (.bool false)], .agg [.nil, .lit (.bool false), .lit (.bool false), .lit (.bool false)], .agg [.slice [.lit (.int .i64 0)] [], .lit (.bool false), .lit (.bool false), .lit (.bool false)], .agg [.slice [.lit (.int .i64 1), .lit (.int .i64 0), .lit (.int .i64 2), .lit (.int .i64 0)] [], .lit (.bool false), .lit (.bool false), .lit (.bool false)], .agg [.nil, .lit (.bool false), .lit (.bool false), .lit (.bool false)], .agg [.slice [.lit (.int .i64 0), .lit (.int .i64 0)] [], .lit (.bool false), .lit (.bool false), .lit (.bool false)], .agg [.nil, .lit (.bool false), .lit (.bool false), .lit (.bool false)], .agg [.nil, .lit (.bool false), .lit (.bool false), .lit (.bool false)], .agg [.slice [.lit (.int .i64 0), .lit (.int .i64 0), .lit (.int .i64 0)] [], .lit (.bool false), .lit (.bool false), .lit (.bool false)], .agg [.slice [.lit (.int .i64 0), .lit (.int .i64 0)] [], .lit (.bool false), .lit (.bool false), .lit (.bool false)], .agg [.slice [.lit (.int .i64 0), .lit (.int .i64 0), .lit (.int .i64 0), .lit (.int .i64 0)] [], .lit (.bool false), .lit (.bool false), .lit (.bool false)], .agg [.slice [.lit (.int .i64 0), .lit (.int .i64 0), .lit (.int .i64 1), .lit (.int .i64 0), .lit (.int .i64 0), .lit (.int .i64 0)] [], .lit (.bool false), .lit (.bool false), .lit (.bool false)], .agg [.slice [.lit (.int .i64 0), .lit (.int .i64 2), .lit (.int .i64 0), .lit (.int .i64 0), .lit (.int .i64 0)] [], .lit (.bool false), .lit (.bool false), .lit (.bool false)], .agg [.slice [.lit (.int .i64 0), .lit (.int .i64 0)] [], .lit (.bool false), .lit (.bool false), .lit (.bool false)], .agg [.slice [.lit (.int .i64 0), .lit (.int .i64 1), .lit (.int .i64 0), .lit (.int .i64 0)] [], .lit (.bool false), .lit (.bool false), .lit (.bool false)], .agg [.nil, .lit (.bool false), .lit (.bool false), .lit (.bool true)], .agg [.nil, .lit (.bool true), .lit (.bool true), .lit (.bool true)], .agg [.nil, .lit (.bool false), .lit (.bool true), .lit (.bool true)], .agg [.slice [.lit (.int .i64 0)] [], .lit (.bool false), .lit (.bool false), .lit (.bool false)], .agg [.nil, .lit (.bool false), .lit (.bool false), .lit (.bool false)]]

/-- 'cornicelaw18.MotiveCounts': WHATEVER THE INPUT: true; the input reads as it did. -/
def motiveCountsSpec : ChangeSpec := { name := "motiveCounts", fn := fun _ => fun
  | [d1, d2, d3, d4] => { results := [.lit (.bool true)], args := [d1, d2, d3, d4] }
  | _ => none }
def motiveCountsRow : OpenClaim := { program := "ytpfmnpaifchleaagreatdoor", sum := "f09716c223303ec3401119e8d0e288a2dd82209979dcd9e6bd80bc1853d286c3", func := "cornice/cornicelaw18.MotiveCounts", spec := "motiveCounts", inPlace := ["slices.overlaps[cornice/api.Node]"], unfollowed := true, recurses := true, named := ["cornice/term.shapes"], apart := false, laid := [("cornice/term.shapes", laid_cornice_term_shapes)] }
def MotiveCountsSaid : Prop := motiveCountsRow.holds Tryz.pinned (OpenSpec.ofChange motiveCountsSpec)

/-- ITS FALSE NEIGHBOUR: 'it returns false'. Refute it at one input. -/
def motiveCountsWrong : ChangeSpec := { name := "motiveCounts", fn := fun _ => fun
  | [d1, d2, d3, d4] => { results := [.lit (.bool false)], args := [d1, d2, d3, d4] }
  | _ => none }
def MotiveCountsWrongFalsely : Prop := motiveCountsRow.holds Tryz.pinned (OpenSpec.ofChange motiveCountsWrong)

/-- 'cornicelaw18.MotiveClosed': WHATEVER THE INPUT: true; the input reads as it did. -/
def motiveClosedSpec : ChangeSpec := { name := "motiveClosed", fn := fun _ => fun
  | [d1, d2, d3, d4, d5, d6, d7] => { results := [.lit (.bool true)], args := [d1, d2, d3, d4, d5, d6, d7] }
  | _ => none }
def motiveClosedRow : OpenClaim := { program := "ytpfmnpaifchleaagreatdoor", sum := "f09716c223303ec3401119e8d0e288a2dd82209979dcd9e6bd80bc1853d286c3", func := "cornice/cornicelaw18.MotiveClosed", spec := "motiveClosed", inPlace := ["slices.overlaps[cornice/api.Node]"], unfollowed := true, recurses := true, named := ["cornice/term.shapes"], apart := false, laid := [("cornice/term.shapes", laid_cornice_term_shapes)] }
def MotiveClosedSaid : Prop := motiveClosedRow.holds Tryz.pinned (OpenSpec.ofChange motiveClosedSpec)

/-- ITS FALSE NEIGHBOUR: 'it returns false'. Refute it at one input. -/
def motiveClosedWrong : ChangeSpec := { name := "motiveClosed", fn := fun _ => fun
  | [d1, d2, d3, d4, d5, d6, d7] => { results := [.lit (.bool false)], args := [d1, d2, d3, d4, d5, d6, d7] }
  | _ => none }
def MotiveClosedWrongFalsely : Prop := motiveClosedRow.holds Tryz.pinned (OpenSpec.ofChange motiveClosedWrong)

/- THE SECOND FORM. 'bulk': how many values and letters a reading holds, each counted each time it is reached (what is shared counts as often as it is met; a slice's spare places count too). A statement '..UptoSaid' is the law's where the arguments, and the package variables that the reading takes, are together of bulk at most 1048576: NARROWER than '..Said'. Prove '..Said' where nothing that the law and all that it calls make is longer than what came in: it says more and counts as full. Else prove '..UptoSaid'. A law counts once. -/
mutual
def uptoBulk {H : Type} : DataW H → Nat
  | .lit (.string bytes) => bytes.length + 1
  | .lit _ => 1
  | .nil => 1
  | .ptr d => uptoBulk d + 1
  | .slice elems spare => uptoBulkAll elems + uptoBulkAll spare + 1
  | .agg parts => uptoBulkAll parts + 1
  | .iface _ d => uptoBulk d + 1
  | .map entries => uptoBulkEntries entries + 1
  | .held _ => 1
def uptoBulkAll {H : Type} : List (DataW H) → Nat
  | [] => 0
  | d :: r => uptoBulk d + uptoBulkAll r
def uptoBulkEntries {H : Type} : List (Lit × DataW H) → Nat
  | [] => 0
  | x :: r => uptoBulkEntry x + uptoBulkEntries r
def uptoBulkEntry {H : Type} : Lit × DataW H → Nat
  | (.string bytes, d) => bytes.length + uptoBulk d + 1
  | (_, d) => uptoBulk d + 1
 end
def uptoSmall : (H : Type) → List (DataW H) → Bool := fun _ ds => decide (uptoBulkAll ds ≤ 1048576)
def OpenSpec.upto (s : _root_.Go.ChangeSpec) : _root_.Go.OpenSpec := { _root_.Go.OpenSpec.ofChange s with cond := some uptoSmall }

/-- 'cornicelaw18.MotiveCounts', WHERE WHAT IT READS IS OF BULK AT MOST 1048576: true; the input reads as it did. -/
def motiveCountsUptoRow : OpenClaim := { program := "ytpfmnpaifchleaagreatdoor", sum := "f09716c223303ec3401119e8d0e288a2dd82209979dcd9e6bd80bc1853d286c3", func := "cornice/cornicelaw18.MotiveCounts", spec := "motiveCounts", inPlace := ["slices.overlaps[cornice/api.Node]"], unfollowed := true, recurses := true, named := ["cornice/term.shapes"], apart := false, laid := [("cornice/term.shapes", laid_cornice_term_shapes)], narrowed := true }
def MotiveCountsUptoSaid : Prop := motiveCountsUptoRow.holds Tryz.pinned (OpenSpec.upto motiveCountsSpec)

/-- 'cornicelaw18.MotiveClosed', WHERE WHAT IT READS IS OF BULK AT MOST 1048576: true; the input reads as it did. -/
def motiveClosedUptoRow : OpenClaim := { program := "ytpfmnpaifchleaagreatdoor", sum := "f09716c223303ec3401119e8d0e288a2dd82209979dcd9e6bd80bc1853d286c3", func := "cornice/cornicelaw18.MotiveClosed", spec := "motiveClosed", inPlace := ["slices.overlaps[cornice/api.Node]"], unfollowed := true, recurses := true, named := ["cornice/term.shapes"], apart := false, laid := [("cornice/term.shapes", laid_cornice_term_shapes)], narrowed := true }
def MotiveClosedUptoSaid : Prop := motiveClosedUptoRow.holds Tryz.pinned (OpenSpec.upto motiveClosedSpec)

end Rows
end Go.Proofs.YtpfmnpaifchleaaGreatDoor
