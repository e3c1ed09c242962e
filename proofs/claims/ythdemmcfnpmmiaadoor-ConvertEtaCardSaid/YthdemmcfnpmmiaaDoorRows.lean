/-
  NARROWER THAN 'FOR EVERY INPUT', by the rows' own cells (each row's printed sentence says how): ConvertSelf: laid · ConvertEta: laid · ConvertNumbers: laid.
  DERIVED. THE GIVEN ROWS OF THIS SEAT. 3 by the template 'for every input the law returns true; each argument reads behind the call as it read before'; 0 by the template 'total and deterministic' (their statements: YthdemmcfnpmmiaaDoorTotals.lean).
  GIVEN WITH THE SEED: the statements are not yours to turn. If you find one false, say at which input.
  Laid BY PROGRAM, IN A SANDBOX (cutbox-rows.mjs): the forced cells as the released guide's own fill.sh prints them over the translation 4b4043a71fb7a91b… (all of the seat's roots in one cut). By AI agents, Wed Nov 11 2026. No macro, syntax, notation, axiom, sorry.
-/
import Derived.Test.YthdemmcfnpmmiaaDoorChecked
import GoSem.Claim
import GoSem.ClaimJoined
import GoSem.ClaimMapViews
import Derived.JoinedTies
import Derived.KernelRfl
namespace Go.Proofs.YthdemmcfnpmmiaaDoor
/- THE CELL 'sum', in the pinned program and in every row, IS THE sha256 OF THE DUMP (.gsa) THAT YthdemmcfnpmmiaaDoorProg.lean LOADS. Nothing in Lean hashes anything: it is a label: what it is worth is what the hold of that sum in a sandbox is worth. -/
noncomputable def Tryd.pinned : Pinned := { name := "ythdemmcfnpmmiaadoor", sum := "4b4043a71fb7a91bfde4f2b607ae522757c17df06a751de8209ec393bf160a23", checked := Tryd.checked }
namespace Rows
def none {H : Type} : Left H := { results := [], args := [] }

/- WHAT THE LISTED PACKAGE-LEVEL VARIABLES READ AS WHEN THE CALL BEGINS. Each datum BY PROGRAM (the guide's laid-datum.mjs) off the statement by which the dump's own 'gosem.cut.vars' lays the variable. In a bare row this is a premise. The card (YthdemmcfnpmmiaaDoorCards.lean) ties it to the program's text. -/
def laid_cornice_term_shapes {H : Type} : DataW H := .agg [.agg [.nil, .lit (.bool true), .lit (.bool false), .lit (.bool false)], .agg [.nil, .lit (.bool false), .lit (.bool false), .lit (.bool true)], .agg [.nil, .lit (.bool true), .lit (.bool false), .lit (.bool false)], .agg [.slice [.lit (.int .i64 0), .lit (.int .i64 1)] [], .lit (.bool true), .lit (.bool false), .lit (.bool false)], .agg [.slice [.lit (.int .i64 0), .lit (.int .i64 1)] [], .lit (.bool false), .lit (.bool false), .lit (.bool false)], .agg [.slice [.lit (.int .i64 0), .lit (.int .i64 0)] [], .lit (.bool false), .lit (.bool false), .lit (.bool false)], .agg [.slice [.lit (.int .i64 0), .lit (.int .i64 1)] [], .lit (.bool true), .lit (.bool false), .lit (.bool false)], .agg [.slice [.lit (.int .i64 0), .lit (.int .i64 0), .lit (.int .i64 0)] [], .lit (.bool false), .lit (.bool false), .lit (.bool false)], .agg [.slice [.lit (.int .i64 0)] [], .lit (.bool false), .lit (.bool false), .lit (.bool false)], .agg [.slice [.lit (.int .i64 0)] [], .lit (.bool false), .lit (.bool false), .lit (.bool false)], .agg [.nil, .lit (.bool false), .lit (.bool false), .lit (.bool false)], .agg [.nil, .lit (.bool false), .lit (.bool false), .lit (.bool false)], .agg [.slice [.lit (.int .i64 0)] [], .lit (.bool false), .lit (.bool false), .lit (.bool false)], .agg [.slice [.lit (.int .i64 1), .lit (.int .i64 0), .lit (.int .i64 2), .lit (.int .i64 0)] [], .lit (.bool false), .lit (.bool false), .lit (.bool false)], .agg [.nil, .lit (.bool false), .lit (.bool false), .lit (.bool false)], .agg [.slice [.lit (.int .i64 0), .lit (.int .i64 0)] [], .lit (.bool false), .lit (.bool false), .lit (.bool false)], .agg [.nil, .lit (.bool false), .lit (.bool false), .lit (.bool false)], .agg [.nil, .lit (.bool false), .lit (.bool false), .lit (.bool false)], .agg [.slice [.lit (.int .i64 0), .lit (.int .i64 0), .lit (.int .i64 0)] [], .lit (.bool false), .lit (.bool false), .lit (.bool false)], .agg [.slice [.lit (.int .i64 0), .lit (.int .i64 0)] [], .lit (.bool false), .lit (.bool false), .lit (.bool false)], .agg [.slice [.lit (.int .i64 0), .lit (.int .i64 0), .lit (.int .i64 0), .lit (.int .i64 0)] [], .lit (.bool false), .lit (.bool false), .lit (.bool false)], .agg [.slice [.lit (.int .i64 0), .lit (.int .i64 0), .lit (.int .i64 1), .lit (.int .i64 0), .lit (.int .i64 0), .lit (.int .i64 0)] [], .lit (.bool false), .lit (.bool false), .lit (.bool false)], .agg [.slice [.lit (.int .i64 0), .lit (.int .i64 2), .lit (.int .i64 0), .lit (.int .i64 0), .lit (.int .i64 0)] [], .lit (.bool false), .lit (.bool false), .lit (.bool false)], .agg [.slice [.lit (.int .i64 0), .lit (.int .i64 0)] [], .lit (.bool false), .lit (.bool false), .lit (.bool false)], .agg [.slice [.lit (.int .i64 0), .lit (.int .i64 1), .lit (.int .i64 0), .lit (.int .i64 0)] [], .lit (.bool false), .lit (.bool false), .lit (.bool false)], .agg [.nil, .lit (.bool false), .lit (.bool false), .lit (.bool true)], .agg [.nil, .lit (.bool true), .lit (.bool true), .lit (.bool true)], .agg [.nil, .lit (.bool false), .lit (.bool true), .lit (.bool true)], .agg [.slice [.lit (.int .i64 0)] [], .lit (.bool false), .lit (.bool false), .lit (.bool false)], .agg [.nil, .lit (.bool false), .lit (.bool false), .lit (.bool false)]]

/-- 'cornicelaw16.ConvertSelf': WHATEVER THE INPUT: true; the input reads as it did. -/
def convertSelfSpec : ChangeSpec := { name := "convertSelf", fn := fun _ => fun
  | [d1, d2] => { results := [.lit (.bool true)], args := [d1, d2] }
  | _ => none }
def convertSelfRow : OpenClaim := { program := "ythdemmcfnpmmiaadoor", sum := "4b4043a71fb7a91bfde4f2b607ae522757c17df06a751de8209ec393bf160a23", func := "cornice/cornicelaw16.ConvertSelf", spec := "convertSelf", unfollowed := true, recurses := true, named := ["cornice/term.shapes"], apart := false, laid := [("cornice/term.shapes", laid_cornice_term_shapes)] }
def ConvertSelfSaid : Prop := convertSelfRow.holds Tryd.pinned (OpenSpec.ofChange convertSelfSpec)

/-- ITS FALSE NEIGHBOUR: 'it returns false'. Refute it at one input. -/
def convertSelfWrong : ChangeSpec := { name := "convertSelf", fn := fun _ => fun
  | [d1, d2] => { results := [.lit (.bool false)], args := [d1, d2] }
  | _ => none }
def ConvertSelfWrongFalsely : Prop := convertSelfRow.holds Tryd.pinned (OpenSpec.ofChange convertSelfWrong)

/-- 'cornicelaw16.ConvertEta': WHATEVER THE INPUT: true; the input reads as it did. -/
def convertEtaSpec : ChangeSpec := { name := "convertEta", fn := fun _ => fun
  | [d1, d2, d3] => { results := [.lit (.bool true)], args := [d1, d2, d3] }
  | _ => none }
def convertEtaRow : OpenClaim := { program := "ythdemmcfnpmmiaadoor", sum := "4b4043a71fb7a91bfde4f2b607ae522757c17df06a751de8209ec393bf160a23", func := "cornice/cornicelaw16.ConvertEta", spec := "convertEta", unfollowed := true, recurses := true, named := ["cornice/term.shapes"], apart := false, laid := [("cornice/term.shapes", laid_cornice_term_shapes)] }
def ConvertEtaSaid : Prop := convertEtaRow.holds Tryd.pinned (OpenSpec.ofChange convertEtaSpec)

/-- ITS FALSE NEIGHBOUR: 'it returns false'. Refute it at one input. -/
def convertEtaWrong : ChangeSpec := { name := "convertEta", fn := fun _ => fun
  | [d1, d2, d3] => { results := [.lit (.bool false)], args := [d1, d2, d3] }
  | _ => none }
def ConvertEtaWrongFalsely : Prop := convertEtaRow.holds Tryd.pinned (OpenSpec.ofChange convertEtaWrong)

/-- 'cornicelaw16.ConvertNumbers': WHATEVER THE INPUT: true; the input reads as it did. -/
def convertNumbersSpec : ChangeSpec := { name := "convertNumbers", fn := fun _ => fun
  | [d1, d2] => { results := [.lit (.bool true)], args := [d1, d2] }
  | _ => none }
def convertNumbersRow : OpenClaim := { program := "ythdemmcfnpmmiaadoor", sum := "4b4043a71fb7a91bfde4f2b607ae522757c17df06a751de8209ec393bf160a23", func := "cornice/cornicelaw16.ConvertNumbers", spec := "convertNumbers", unfollowed := true, recurses := true, named := ["cornice/term.shapes"], apart := false, laid := [("cornice/term.shapes", laid_cornice_term_shapes)] }
def ConvertNumbersSaid : Prop := convertNumbersRow.holds Tryd.pinned (OpenSpec.ofChange convertNumbersSpec)

/-- ITS FALSE NEIGHBOUR: 'it returns false'. Refute it at one input. -/
def convertNumbersWrong : ChangeSpec := { name := "convertNumbers", fn := fun _ => fun
  | [d1, d2] => { results := [.lit (.bool false)], args := [d1, d2] }
  | _ => none }
def ConvertNumbersWrongFalsely : Prop := convertNumbersRow.holds Tryd.pinned (OpenSpec.ofChange convertNumbersWrong)

/- THE SECOND FORM. 'bulk': how many values and letters a reading holds, each counted each time it is reached (what is shared counts as often as it is met; a slice's spare places count too). A statement '..UptoSaid' is the law's where the arguments, and the package variables that the reading takes, are together of bulk at most 1048576: NARROWER than '..Said'. Prove '..Said' where nothing that the law and all that it calls make is longer than what came in: it says more and counts as full. Else prove '..UptoSaid'. A law counts once. -/
mutual
def uptoBulk {H : Type} : DataW H → Nat
  | .lit (.string bytes) => bytes.length + 1
  | .lit _ => 1
  | .nil => 1
  | .ptr d => uptoBulk d + 1
  | .slice elems spare => uptoBulkAll elems + uptoBulkAll spare + 1
  | .agg parts => uptoBulkAll parts + 1
  | .iface _ d => uptoBulk d + 1
  | .map entries => uptoBulkEntries entries + 1
  | .held _ => 1
def uptoBulkAll {H : Type} : List (DataW H) → Nat
  | [] => 0
  | d :: r => uptoBulk d + uptoBulkAll r
def uptoBulkEntries {H : Type} : List (Lit × DataW H) → Nat
  | [] => 0
  | x :: r => uptoBulkEntry x + uptoBulkEntries r
def uptoBulkEntry {H : Type} : Lit × DataW H → Nat
  | (.string bytes, d) => bytes.length + uptoBulk d + 1
  | (_, d) => uptoBulk d + 1
 end
def uptoSmall : (H : Type) → List (DataW H) → Bool := fun _ ds => decide (uptoBulkAll ds ≤ 1048576)
def OpenSpec.upto (s : _root_.Go.ChangeSpec) : _root_.Go.OpenSpec := { _root_.Go.OpenSpec.ofChange s with cond := some uptoSmall }

/-- 'cornicelaw16.ConvertSelf', WHERE WHAT IT READS IS OF BULK AT MOST 1048576: true; the input reads as it did. -/
def convertSelfUptoRow : OpenClaim := { program := "ythdemmcfnpmmiaadoor", sum := "4b4043a71fb7a91bfde4f2b607ae522757c17df06a751de8209ec393bf160a23", func := "cornice/cornicelaw16.ConvertSelf", spec := "convertSelf", unfollowed := true, recurses := true, named := ["cornice/term.shapes"], apart := false, laid := [("cornice/term.shapes", laid_cornice_term_shapes)], narrowed := true }
def ConvertSelfUptoSaid : Prop := convertSelfUptoRow.holds Tryd.pinned (OpenSpec.upto convertSelfSpec)

/-- 'cornicelaw16.ConvertEta', WHERE WHAT IT READS IS OF BULK AT MOST 1048576: true; the input reads as it did. -/
def convertEtaUptoRow : OpenClaim := { program := "ythdemmcfnpmmiaadoor", sum := "4b4043a71fb7a91bfde4f2b607ae522757c17df06a751de8209ec393bf160a23", func := "cornice/cornicelaw16.ConvertEta", spec := "convertEta", unfollowed := true, recurses := true, named := ["cornice/term.shapes"], apart := false, laid := [("cornice/term.shapes", laid_cornice_term_shapes)], narrowed := true }
def ConvertEtaUptoSaid : Prop := convertEtaUptoRow.holds Tryd.pinned (OpenSpec.upto convertEtaSpec)

/-- 'cornicelaw16.ConvertNumbers', WHERE WHAT IT READS IS OF BULK AT MOST 1048576: true; the input reads as it did. -/
def convertNumbersUptoRow : OpenClaim := { program := "ythdemmcfnpmmiaadoor", sum := "4b4043a71fb7a91bfde4f2b607ae522757c17df06a751de8209ec393bf160a23", func := "cornice/cornicelaw16.ConvertNumbers", spec := "convertNumbers", unfollowed := true, recurses := true, named := ["cornice/term.shapes"], apart := false, laid := [("cornice/term.shapes", laid_cornice_term_shapes)], narrowed := true }
def ConvertNumbersUptoSaid : Prop := convertNumbersUptoRow.holds Tryd.pinned (OpenSpec.upto convertNumbersSpec)

end Rows
end Go.Proofs.YthdemmcfnpmmiaaDoor
