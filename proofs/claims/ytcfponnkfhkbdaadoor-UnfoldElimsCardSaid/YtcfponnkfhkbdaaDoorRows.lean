/-
  NARROWER THAN 'FOR EVERY INPUT', by the rows' own cells (each row's printed sentence says how): UnfoldRules: laid · UnfoldMoves: laid · UnfoldNumbers: laid · UnfoldPairs: laid · UnfoldElims: laid · UnfoldKinds: laid · EqualNumbers: laid.
  DERIVED. THE GIVEN ROWS OF THIS SEAT. 7 by the template 'for every input the law returns true; each argument reads behind the call as it read before'; 0 by the template 'total and deterministic' (their statements: YtcfponnkfhkbdaaDoorTotals.lean).
  GIVEN WITH THE SEED: the statements are not yours to turn. If you find one false, say at which input.
  Laid BY PROGRAM, IN A SANDBOX (cutbox-rows.mjs): the forced cells as the released guide's own fill.sh prints them over the translation 83a996129b08d81b… (all of the seat's roots in one cut). By AI agents, Wed Nov 11 2026. No macro, syntax, notation, axiom, sorry.
-/
import Derived.Test.YtcfponnkfhkbdaaDoorChecked
import GoSem.Claim
import GoSem.ClaimJoined
import GoSem.ClaimMapViews
import Derived.JoinedTies
import Derived.KernelRfl
namespace Go.Proofs.YtcfponnkfhkbdaaDoor
/- THE CELL 'sum', in the pinned program and in every row, IS THE sha256 OF THE DUMP (.gsa) THAT YtcfponnkfhkbdaaDoorProg.lean LOADS. Nothing in Lean hashes anything: it is a label: what it is worth is what the hold of that sum in a sandbox is worth. -/
noncomputable def Tryd.pinned : Pinned := { name := "ytcfponnkfhkbdaadoor", sum := "83a996129b08d81b5282d202ddcb6c3ae034d8e70e83bfe99e2cf45a10116b40", checked := Tryd.checked }
namespace Rows
def none {H : Type} : Left H := { results := [], args := [] }

/- WHAT THE LISTED PACKAGE-LEVEL VARIABLES READ AS WHEN THE CALL BEGINS. Each datum BY PROGRAM (the guide's laid-datum.mjs) off the statement by which the dump's own 'gosem.cut.vars' lays the variable. In a bare row this is a premise. The card (YtcfponnkfhkbdaaDoorCards.lean) ties it to the program's text. -/
def laid_cornice_term_shapes {H : Type} : DataW H := .agg [.agg [.nil, .lit (.bool true), .lit (.bool false), .lit (.bool false)], .agg [.nil, .lit (.bool false), .lit (.bool false), .lit (.bool true)], .agg [.nil, .lit (.bool true), .lit (.bool false), .lit (.bool false)], .agg [.slice [.lit (.int .i64 0), .lit (.int .i64 1)] [], .lit (.bool true), .lit (.bool false), .lit (.bool false)], .agg [.slice [.lit (.int .i64 0), .lit (.int .i64 1)] [], .lit (.bool false), .lit (.bool false), .lit (.bool false)], .agg [.slice [.lit (.int .i64 0), .lit (.int .i64 0)] [], .lit (.bool false), .lit (.bool false), .lit (.bool false)], .agg [.slice [.lit (.int .i64 0), .lit (.int .i64 1)] [], .lit (.bool true), .lit (.bool false), .lit (.bool false)], .agg [.slice [.lit (.int .i64 0), .lit (.int .i64 0), .lit (.int .i64 0)] [], .lit (.bool false), .lit (.bool false), .lit (.bool false)], .agg [.slice [.lit (.int .i64 0)] [], .lit (.bool false), .lit (.bool false), .lit (.bool false)], .agg [.slice [.lit (.int .i64 0)] [], .lit (.bool false), .lit (.bool false), .lit (.bool false)], .agg [.nil, .lit (.bool false), .lit (.bool false), .lit (.bool false)], .agg [.nil, .lit (.bool false), .lit (.bool false), .lit (.bool false)], .agg [.slice [.lit (.int .i64 0)] [], .lit (.bool false), .lit (.bool false), .lit (.bool false)], .agg [.slice [.lit (.int .i64 1), .lit (.int .i64 0), .lit (.int .i64 2), .lit (.int .i64 0)] [], .lit (.bool false), .lit (.bool false), .lit (.bool false)], .agg [.nil, .lit (.bool false), .lit (.bool false), .lit (.bool false)], .agg [.slice [.lit (.int .i64 0), .lit (.int .i64 0)] [], .lit (.bool false), .lit (.bool false), .lit (.bool false)], .agg [.nil, .lit (.bool false), .lit (.bool false), .lit (.bool false)], .agg [.nil, .lit (.bool false), .lit (.bool false), .lit (.bool false)], .agg [.slice [.lit (.int .i64 0), .lit (.int .i64 0), .lit (.int .i64 0)] [], .lit (.bool false), .lit (.bool false), .lit (.bool false)], .agg [.slice [.lit (.int .i64 0), .lit (.int .i64 0)] [], .lit (.bool false), .lit (.bool false), .lit (.bool false)], .agg [.slice [.lit (.int .i64 0), .lit (.int .i64 0), .lit (.int .i64 0), .lit (.int .i64 0)] [], .lit (.bool false), .lit (.bool false), .lit (.bool false)], .agg [.slice [.lit (.int .i64 0), .lit (.int .i64 0), .lit (.int .i64 1), .lit (.int .i64 0), .lit (.int .i64 0), .lit (.int .i64 0)] [], .lit (.bool false), .lit (.bool false), .lit (.bool false)], .agg [.slice [.lit (.int .i64 0), .lit (.int .i64 2), .lit (.int .i64 0), .lit (.int .i64 0), .lit (.int .i64 0)] [], .lit (.bool false), .lit (.bool false), .lit (.bool false)], .agg [.slice [.lit (.int .i64 0), .lit (.int .i64 0)] [], .lit (.bool false), .lit (.bool false), .lit (.bool false)], .agg [.slice [.lit (.int .i64 0), .lit (.int .i64 1), .lit (.int .i64 0), .lit (.int .i64 0)] [], .lit (.bool false), .lit (.bool false), .lit (.bool false)], .agg [.nil, .lit (.bool false), .lit (.bool false), .lit (.bool true)], .agg [.nil, .lit (.bool true), .lit (.bool true), .lit (.bool true)], .agg [.nil, .lit (.bool false), .lit (.bool true), .lit (.bool true)], .agg [.slice [.lit (.int .i64 0)] [], .lit (.bool false), .lit (.bool false), .lit (.bool false)], .agg [.nil, .lit (.bool false), .lit (.bool false), .lit (.bool false)]]

/-- 'cornicelaw14.UnfoldRules': WHATEVER THE INPUT: true; the input reads as it did. -/
def unfoldRulesSpec : ChangeSpec := { name := "unfoldRules", fn := fun _ => fun
  | [d1, d2, d3] => { results := [.lit (.bool true)], args := [d1, d2, d3] }
  | _ => none }
def unfoldRulesRow : OpenClaim := { program := "ytcfponnkfhkbdaadoor", sum := "83a996129b08d81b5282d202ddcb6c3ae034d8e70e83bfe99e2cf45a10116b40", func := "cornice/cornicelaw14.UnfoldRules", spec := "unfoldRules", unfollowed := true, recurses := true, named := ["cornice/term.shapes"], apart := false, laid := [("cornice/term.shapes", laid_cornice_term_shapes)] }
def UnfoldRulesSaid : Prop := unfoldRulesRow.holds Tryd.pinned (OpenSpec.ofChange unfoldRulesSpec)

/-- ITS FALSE NEIGHBOUR: 'it returns false'. Refute it at one input. -/
def unfoldRulesWrong : ChangeSpec := { name := "unfoldRules", fn := fun _ => fun
  | [d1, d2, d3] => { results := [.lit (.bool false)], args := [d1, d2, d3] }
  | _ => none }
def UnfoldRulesWrongFalsely : Prop := unfoldRulesRow.holds Tryd.pinned (OpenSpec.ofChange unfoldRulesWrong)

/-- 'cornicelaw14.UnfoldMoves': WHATEVER THE INPUT: true; the input reads as it did. -/
def unfoldMovesSpec : ChangeSpec := { name := "unfoldMoves", fn := fun _ => fun
  | [d1, d2, d3, d4] => { results := [.lit (.bool true)], args := [d1, d2, d3, d4] }
  | _ => none }
def unfoldMovesRow : OpenClaim := { program := "ytcfponnkfhkbdaadoor", sum := "83a996129b08d81b5282d202ddcb6c3ae034d8e70e83bfe99e2cf45a10116b40", func := "cornice/cornicelaw14.UnfoldMoves", spec := "unfoldMoves", unfollowed := true, recurses := true, named := ["cornice/term.shapes"], apart := false, laid := [("cornice/term.shapes", laid_cornice_term_shapes)] }
def UnfoldMovesSaid : Prop := unfoldMovesRow.holds Tryd.pinned (OpenSpec.ofChange unfoldMovesSpec)

/-- ITS FALSE NEIGHBOUR: 'it returns false'. Refute it at one input. -/
def unfoldMovesWrong : ChangeSpec := { name := "unfoldMoves", fn := fun _ => fun
  | [d1, d2, d3, d4] => { results := [.lit (.bool false)], args := [d1, d2, d3, d4] }
  | _ => none }
def UnfoldMovesWrongFalsely : Prop := unfoldMovesRow.holds Tryd.pinned (OpenSpec.ofChange unfoldMovesWrong)

/-- 'cornicelaw14.UnfoldNumbers': WHATEVER THE INPUT: true; the input reads as it did. -/
def unfoldNumbersSpec : ChangeSpec := { name := "unfoldNumbers", fn := fun _ => fun
  | [d] => { results := [.lit (.bool true)], args := [d] }
  | _ => none }
def unfoldNumbersRow : OpenClaim := { program := "ytcfponnkfhkbdaadoor", sum := "83a996129b08d81b5282d202ddcb6c3ae034d8e70e83bfe99e2cf45a10116b40", func := "cornice/cornicelaw14.UnfoldNumbers", spec := "unfoldNumbers", unfollowed := true, recurses := true, named := ["cornice/term.shapes"], apart := false, laid := [("cornice/term.shapes", laid_cornice_term_shapes)] }
def UnfoldNumbersSaid : Prop := unfoldNumbersRow.holds Tryd.pinned (OpenSpec.ofChange unfoldNumbersSpec)

/-- ITS FALSE NEIGHBOUR: 'it returns false'. Refute it at one input. -/
def unfoldNumbersWrong : ChangeSpec := { name := "unfoldNumbers", fn := fun _ => fun
  | [d] => { results := [.lit (.bool false)], args := [d] }
  | _ => none }
def UnfoldNumbersWrongFalsely : Prop := unfoldNumbersRow.holds Tryd.pinned (OpenSpec.ofChange unfoldNumbersWrong)

/-- 'cornicelaw14.UnfoldPairs': WHATEVER THE INPUT: true; the input reads as it did. -/
def unfoldPairsSpec : ChangeSpec := { name := "unfoldPairs", fn := fun _ => fun
  | [d1, d2, d3, d4] => { results := [.lit (.bool true)], args := [d1, d2, d3, d4] }
  | _ => none }
def unfoldPairsRow : OpenClaim := { program := "ytcfponnkfhkbdaadoor", sum := "83a996129b08d81b5282d202ddcb6c3ae034d8e70e83bfe99e2cf45a10116b40", func := "cornice/cornicelaw14.UnfoldPairs", spec := "unfoldPairs", unfollowed := true, recurses := true, named := ["cornice/term.shapes"], apart := false, laid := [("cornice/term.shapes", laid_cornice_term_shapes)] }
def UnfoldPairsSaid : Prop := unfoldPairsRow.holds Tryd.pinned (OpenSpec.ofChange unfoldPairsSpec)

/-- ITS FALSE NEIGHBOUR: 'it returns false'. Refute it at one input. -/
def unfoldPairsWrong : ChangeSpec := { name := "unfoldPairs", fn := fun _ => fun
  | [d1, d2, d3, d4] => { results := [.lit (.bool false)], args := [d1, d2, d3, d4] }
  | _ => none }
def UnfoldPairsWrongFalsely : Prop := unfoldPairsRow.holds Tryd.pinned (OpenSpec.ofChange unfoldPairsWrong)

/-- 'cornicelaw14.UnfoldElims': WHATEVER THE INPUT: true; the input reads as it did. -/
def unfoldElimsSpec : ChangeSpec := { name := "unfoldElims", fn := fun _ => fun
  | [d1, d2, d3, d4] => { results := [.lit (.bool true)], args := [d1, d2, d3, d4] }
  | _ => none }
def unfoldElimsRow : OpenClaim := { program := "ytcfponnkfhkbdaadoor", sum := "83a996129b08d81b5282d202ddcb6c3ae034d8e70e83bfe99e2cf45a10116b40", func := "cornice/cornicelaw14.UnfoldElims", spec := "unfoldElims", unfollowed := true, recurses := true, named := ["cornice/term.shapes"], apart := false, laid := [("cornice/term.shapes", laid_cornice_term_shapes)] }
def UnfoldElimsSaid : Prop := unfoldElimsRow.holds Tryd.pinned (OpenSpec.ofChange unfoldElimsSpec)

/-- ITS FALSE NEIGHBOUR: 'it returns false'. Refute it at one input. -/
def unfoldElimsWrong : ChangeSpec := { name := "unfoldElims", fn := fun _ => fun
  | [d1, d2, d3, d4] => { results := [.lit (.bool false)], args := [d1, d2, d3, d4] }
  | _ => none }
def UnfoldElimsWrongFalsely : Prop := unfoldElimsRow.holds Tryd.pinned (OpenSpec.ofChange unfoldElimsWrong)

/-- 'cornicelaw14.UnfoldKinds': WHATEVER THE INPUT: true; the input reads as it did. -/
def unfoldKindsSpec : ChangeSpec := { name := "unfoldKinds", fn := fun _ => fun
  | [d1, d2, d3, d4] => { results := [.lit (.bool true)], args := [d1, d2, d3, d4] }
  | _ => none }
def unfoldKindsRow : OpenClaim := { program := "ytcfponnkfhkbdaadoor", sum := "83a996129b08d81b5282d202ddcb6c3ae034d8e70e83bfe99e2cf45a10116b40", func := "cornice/cornicelaw14.UnfoldKinds", spec := "unfoldKinds", unfollowed := true, recurses := true, named := ["cornice/term.shapes"], apart := false, laid := [("cornice/term.shapes", laid_cornice_term_shapes)] }
def UnfoldKindsSaid : Prop := unfoldKindsRow.holds Tryd.pinned (OpenSpec.ofChange unfoldKindsSpec)

/-- ITS FALSE NEIGHBOUR: 'it returns false'. Refute it at one input. -/
def unfoldKindsWrong : ChangeSpec := { name := "unfoldKinds", fn := fun _ => fun
  | [d1, d2, d3, d4] => { results := [.lit (.bool false)], args := [d1, d2, d3, d4] }
  | _ => none }
def UnfoldKindsWrongFalsely : Prop := unfoldKindsRow.holds Tryd.pinned (OpenSpec.ofChange unfoldKindsWrong)

/-- 'cornicelaw12.EqualNumbers': WHATEVER THE INPUT: true; the input reads as it did. -/
def equalNumbersSpec : ChangeSpec := { name := "equalNumbers", fn := fun _ => fun
  | [d1, d2] => { results := [.lit (.bool true)], args := [d1, d2] }
  | _ => none }
def equalNumbersRow : OpenClaim := { program := "ytcfponnkfhkbdaadoor", sum := "83a996129b08d81b5282d202ddcb6c3ae034d8e70e83bfe99e2cf45a10116b40", func := "cornice/cornicelaw12.EqualNumbers", spec := "equalNumbers", unfollowed := true, recurses := true, named := ["cornice/term.shapes"], apart := false, laid := [("cornice/term.shapes", laid_cornice_term_shapes)] }
def EqualNumbersSaid : Prop := equalNumbersRow.holds Tryd.pinned (OpenSpec.ofChange equalNumbersSpec)

/-- ITS FALSE NEIGHBOUR: 'it returns false'. Refute it at one input. -/
def equalNumbersWrong : ChangeSpec := { name := "equalNumbers", fn := fun _ => fun
  | [d1, d2] => { results := [.lit (.bool false)], args := [d1, d2] }
  | _ => none }
def EqualNumbersWrongFalsely : Prop := equalNumbersRow.holds Tryd.pinned (OpenSpec.ofChange equalNumbersWrong)

/- THE SECOND FORM. 'bulk': how many values and letters a reading holds, each counted each time it is reached (what is shared counts as often as it is met; a slice's spare places count too). A statement '..UptoSaid' is the law's where the arguments, and the package variables that the reading takes, are together of bulk at most 1048576: NARROWER than '..Said'. Prove '..Said' where nothing that the law and all that it calls make is longer than what came in: it says more and counts as full. Else prove '..UptoSaid'. A law counts once. -/
mutual
def uptoBulk {H : Type} : DataW H → Nat
  | .lit (.string bytes) => bytes.length + 1
  | .lit _ => 1
  | .nil => 1
  | .ptr d => uptoBulk d + 1
  | .slice elems spare => uptoBulkAll elems + uptoBulkAll spare + 1
  | .agg parts => uptoBulkAll parts + 1
  | .iface _ d => uptoBulk d + 1
  | .map entries => uptoBulkEntries entries + 1
  | .held _ => 1
def uptoBulkAll {H : Type} : List (DataW H) → Nat
  | [] => 0
  | d :: r => uptoBulk d + uptoBulkAll r
def uptoBulkEntries {H : Type} : List (Lit × DataW H) → Nat
  | [] => 0
  | x :: r => uptoBulkEntry x + uptoBulkEntries r
def uptoBulkEntry {H : Type} : Lit × DataW H → Nat
  | (.string bytes, d) => bytes.length + uptoBulk d + 1
  | (_, d) => uptoBulk d + 1
 end
def uptoSmall : (H : Type) → List (DataW H) → Bool := fun _ ds => decide (uptoBulkAll ds ≤ 1048576)
def OpenSpec.upto (s : _root_.Go.ChangeSpec) : _root_.Go.OpenSpec := { _root_.Go.OpenSpec.ofChange s with cond := some uptoSmall }

/-- 'cornicelaw14.UnfoldRules', WHERE WHAT IT READS IS OF BULK AT MOST 1048576: true; the input reads as it did. -/
def unfoldRulesUptoRow : OpenClaim := { program := "ytcfponnkfhkbdaadoor", sum := "83a996129b08d81b5282d202ddcb6c3ae034d8e70e83bfe99e2cf45a10116b40", func := "cornice/cornicelaw14.UnfoldRules", spec := "unfoldRules", unfollowed := true, recurses := true, named := ["cornice/term.shapes"], apart := false, laid := [("cornice/term.shapes", laid_cornice_term_shapes)], narrowed := true }
def UnfoldRulesUptoSaid : Prop := unfoldRulesUptoRow.holds Tryd.pinned (OpenSpec.upto unfoldRulesSpec)

/-- 'cornicelaw14.UnfoldMoves', WHERE WHAT IT READS IS OF BULK AT MOST 1048576: true; the input reads as it did. -/
def unfoldMovesUptoRow : OpenClaim := { program := "ytcfponnkfhkbdaadoor", sum := "83a996129b08d81b5282d202ddcb6c3ae034d8e70e83bfe99e2cf45a10116b40", func := "cornice/cornicelaw14.UnfoldMoves", spec := "unfoldMoves", unfollowed := true, recurses := true, named := ["cornice/term.shapes"], apart := false, laid := [("cornice/term.shapes", laid_cornice_term_shapes)], narrowed := true }
def UnfoldMovesUptoSaid : Prop := unfoldMovesUptoRow.holds Tryd.pinned (OpenSpec.upto unfoldMovesSpec)

/-- 'cornicelaw14.UnfoldNumbers', WHERE WHAT IT READS IS OF BULK AT MOST 1048576: true; the input reads as it did. -/
def unfoldNumbersUptoRow : OpenClaim := { program := "ytcfponnkfhkbdaadoor", sum := "83a996129b08d81b5282d202ddcb6c3ae034d8e70e83bfe99e2cf45a10116b40", func := "cornice/cornicelaw14.UnfoldNumbers", spec := "unfoldNumbers", unfollowed := true, recurses := true, named := ["cornice/term.shapes"], apart := false, laid := [("cornice/term.shapes", laid_cornice_term_shapes)], narrowed := true }
def UnfoldNumbersUptoSaid : Prop := unfoldNumbersUptoRow.holds Tryd.pinned (OpenSpec.upto unfoldNumbersSpec)

/-- 'cornicelaw14.UnfoldPairs', WHERE WHAT IT READS IS OF BULK AT MOST 1048576: true; the input reads as it did. -/
def unfoldPairsUptoRow : OpenClaim := { program := "ytcfponnkfhkbdaadoor", sum := "83a996129b08d81b5282d202ddcb6c3ae034d8e70e83bfe99e2cf45a10116b40", func := "cornice/cornicelaw14.UnfoldPairs", spec := "unfoldPairs", unfollowed := true, recurses := true, named := ["cornice/term.shapes"], apart := false, laid := [("cornice/term.shapes", laid_cornice_term_shapes)], narrowed := true }
def UnfoldPairsUptoSaid : Prop := unfoldPairsUptoRow.holds Tryd.pinned (OpenSpec.upto unfoldPairsSpec)

/-- 'cornicelaw14.UnfoldElims', WHERE WHAT IT READS IS OF BULK AT MOST 1048576: true; the input reads as it did. -/
def unfoldElimsUptoRow : OpenClaim := { program := "ytcfponnkfhkbdaadoor", sum := "83a996129b08d81b5282d202ddcb6c3ae034d8e70e83bfe99e2cf45a10116b40", func := "cornice/cornicelaw14.UnfoldElims", spec := "unfoldElims", unfollowed := true, recurses := true, named := ["cornice/term.shapes"], apart := false, laid := [("cornice/term.shapes", laid_cornice_term_shapes)], narrowed := true }
def UnfoldElimsUptoSaid : Prop := unfoldElimsUptoRow.holds Tryd.pinned (OpenSpec.upto unfoldElimsSpec)

/-- 'cornicelaw14.UnfoldKinds', WHERE WHAT IT READS IS OF BULK AT MOST 1048576: true; the input reads as it did. -/
def unfoldKindsUptoRow : OpenClaim := { program := "ytcfponnkfhkbdaadoor", sum := "83a996129b08d81b5282d202ddcb6c3ae034d8e70e83bfe99e2cf45a10116b40", func := "cornice/cornicelaw14.UnfoldKinds", spec := "unfoldKinds", unfollowed := true, recurses := true, named := ["cornice/term.shapes"], apart := false, laid := [("cornice/term.shapes", laid_cornice_term_shapes)], narrowed := true }
def UnfoldKindsUptoSaid : Prop := unfoldKindsUptoRow.holds Tryd.pinned (OpenSpec.upto unfoldKindsSpec)

/-- 'cornicelaw12.EqualNumbers', WHERE WHAT IT READS IS OF BULK AT MOST 1048576: true; the input reads as it did. -/
def equalNumbersUptoRow : OpenClaim := { program := "ytcfponnkfhkbdaadoor", sum := "83a996129b08d81b5282d202ddcb6c3ae034d8e70e83bfe99e2cf45a10116b40", func := "cornice/cornicelaw12.EqualNumbers", spec := "equalNumbers", unfollowed := true, recurses := true, named := ["cornice/term.shapes"], apart := false, laid := [("cornice/term.shapes", laid_cornice_term_shapes)], narrowed := true }
def EqualNumbersUptoSaid : Prop := equalNumbersUptoRow.holds Tryd.pinned (OpenSpec.upto equalNumbersSpec)

end Rows
end Go.Proofs.YtcfponnkfhkbdaaDoor
