/-
  NARROWER THAN 'FOR EVERY INPUT', by the rows' own cells (each row's printed sentence says how): ConvertSelf: laid · ConvertEta: laid · ConvertNumbers: laid · EraseMoves: laid · EraseParts: laid · EraseAlike: laid · CastrSelf: laid · CastrMoves: laid · CastrHeads: laid · CastrPairs: laid · EraseTells: laid · EraseTwice: laid.
  DERIVED. THE GIVEN ROWS OF THIS SEAT. 12 by the template 'for every input the law returns true; each argument reads behind the call as it read before'; 0 by the template 'total and deterministic' (their statements: YtobgdeffhdefeaaDoorTotals.lean).
  GIVEN WITH THE SEED: the statements are not yours to turn. If you find one false, say at which input.
  Laid BY PROGRAM, IN A SANDBOX (cutbox-rows.mjs): the forced cells as the released guide's own fill.sh prints them over the translation e0aa6478bd636dae… (all of the seat's roots in one cut). By AI agents, Wed Nov 11 2026. No macro, syntax, notation, axiom, sorry.
-/
import Derived.Test.YtobgdeffhdefeaaDoorChecked
import GoSem.Claim
import GoSem.ClaimJoined
import GoSem.ClaimMapViews
import Derived.JoinedTies
import Derived.KernelRfl
namespace Go.Proofs.YtobgdeffhdefeaaDoor
/- THE CELL 'sum', in the pinned program and in every row, IS THE sha256 OF THE DUMP (.gsa) THAT YtobgdeffhdefeaaDoorProg.lean LOADS. Nothing in Lean hashes anything: it is a label: what it is worth is what the hold of that sum in a sandbox is worth. -/
noncomputable def Tryd.pinned : Pinned := { name := "ytobgdeffhdefeaadoor", sum := "e0aa6478bd636dae49ce8c521a473e4b04f3df3677d75dce64644c866d8cfaae", checked := Tryd.checked }
namespace Rows
def none {H : Type} : Left H := { results := [], args := [] }

/- WHAT THE LISTED PACKAGE-LEVEL VARIABLES READ AS WHEN THE CALL BEGINS. Each datum BY PROGRAM (the guide's laid-datum.mjs) off the statement by which the dump's own 'gosem.cut.vars' lays the variable. In a bare row this is a premise. The card (YtobgdeffhdefeaaDoorCards.lean) ties it to the program's text. -/
def laid_cornice_term_shapes {H : Type} : DataW H := .agg [.agg [.nil, .lit (.bool true), .lit (.bool false), .lit (.bool false)], .agg [.nil, .lit (.bool false), .lit (.bool false), .lit (.bool true)], .agg [.nil, .lit (.bool true), .lit (.bool false), .lit (.bool false)], .agg [.slice [.lit (.int .i64 0), .lit (.int .i64 1)] [], .lit (.bool true), .lit (.bool false), .lit (.bool false)], .agg [.slice [.lit (.int .i64 0), .lit (.int .i64 1)] [], .lit (.bool false), .lit (.bool false), .lit (.bool false)], .agg [.slice [.lit (.int .i64 0), .lit (.int .i64 0)] [], .lit (.bool false), .lit (.bool false), .lit (.bool false)], .agg [.slice [.lit (.int .i64 0), .lit (.int .i64 1)] [], .lit (.bool true), .lit (.bool false), .lit (.bool false)], .agg [.slice [.lit (.int .i64 0), .lit (.int .i64 0), .lit (.int .i64 0)] [], .lit (.bool false), .lit (.bool false), .lit (.bool false)], .agg [.slice [.lit (.int .i64 0)] [], .lit (.bool false), .lit (.bool false), .lit (.bool false)], .agg [.slice [.lit (.int .i64 0)] [], .lit (.bool false), .lit (.bool false), .lit (.bool false)], .agg [.nil, .lit (.bool false), .lit (.bool false), .lit (.bool false)], .agg [.nil, .lit (.bool false), .lit (.bool false), .lit (.bool false)], .agg [.slice [.lit (.int .i64 0)] [], .lit (.bool false), .lit (.bool false), .lit (.bool false)], .agg [.slice [.lit (.int .i64 1), .lit (.int .i64 0), .lit (.int .i64 2), .lit (.int .i64 0)] [], .lit (.bool false), .lit (.bool false), .lit (.bool false)], .agg [.nil, .lit (.bool false), .lit (.bool false), .lit (.bool false)], .agg [.slice [.lit (.int .i64 0), .lit (.int .i64 0)] [], .lit (.bool false), .lit (.bool false), .lit (.bool false)], .agg [.nil, .lit (.bool false), .lit (.bool false), .lit (.bool false)], .agg [.nil, .lit (.bool false), .lit (.bool false), .lit (.bool false)], .agg [.slice [.lit (.int .i64 0), .lit (.int .i64 0), .lit (.int .i64 0)] [], .lit (.bool false), .lit (.bool false), .lit (.bool false)], .agg [.slice [.lit (.int .i64 0), .lit (.int .i64 0)] [], .lit (.bool false), .lit (.bool false), .lit (.bool false)], .agg [.slice [.lit (.int .i64 0), .lit (.int .i64 0), .lit (.int .i64 0), .lit (.int .i64 0)] [], .lit (.bool false), .lit (.bool false), .lit (.bool false)], .agg [.slice [.lit (.int .i64 0), .lit (.int .i64 0), .lit (.int .i64 1), .lit (.int .i64 0), .lit (.int .i64 0), .lit (.int .i64 0)] [], .lit (.bool false), .lit (.bool false), .lit (.bool false)], .agg [.slice [.lit (.int .i64 0), .lit (.int .i64 2), .lit (.int .i64 0), .lit (.int .i64 0), .lit (.int .i64 0)] [], .lit (.bool false), .lit (.bool false), .lit (.bool false)], .agg [.slice [.lit (.int .i64 0), .lit (.int .i64 0)] [], .lit (.bool false), .lit (.bool false), .lit (.bool false)], .agg [.slice [.lit (.int .i64 0), .lit (.int .i64 1), .lit (.int .i64 0), .lit (.int .i64 0)] [], .lit (.bool false), .lit (.bool false), .lit (.bool false)], .agg [.nil, .lit (.bool false), .lit (.bool false), .lit (.bool true)], .agg [.nil, .lit (.bool true), .lit (.bool true), .lit (.bool true)], .agg [.nil, .lit (.bool false), .lit (.bool true), .lit (.bool true)], .agg [.slice [.lit (.int .i64 0)] [], .lit (.bool false), .lit (.bool false), .lit (.bool false)], .agg [.nil, .lit (.bool false), .lit (.bool false), .lit (.bool false)]]

/-- 'cornicelaw16.ConvertSelf': WHATEVER THE INPUT: true; the input reads as it did. -/
def convertSelfSpec : ChangeSpec := { name := "convertSelf", fn := fun _ => fun
  | [d1, d2] => { results := [.lit (.bool true)], args := [d1, d2] }
  | _ => none }
def convertSelfRow : OpenClaim := { program := "ytobgdeffhdefeaadoor", sum := "e0aa6478bd636dae49ce8c521a473e4b04f3df3677d75dce64644c866d8cfaae", func := "cornice/cornicelaw16.ConvertSelf", spec := "convertSelf", unfollowed := true, recurses := true, named := ["cornice/term.shapes"], apart := false, laid := [("cornice/term.shapes", laid_cornice_term_shapes)] }
def ConvertSelfSaid : Prop := convertSelfRow.holds Tryd.pinned (OpenSpec.ofChange convertSelfSpec)

/-- ITS FALSE NEIGHBOUR: 'it returns false'. Refute it at one input. -/
def convertSelfWrong : ChangeSpec := { name := "convertSelf", fn := fun _ => fun
  | [d1, d2] => { results := [.lit (.bool false)], args := [d1, d2] }
  | _ => none }
def ConvertSelfWrongFalsely : Prop := convertSelfRow.holds Tryd.pinned (OpenSpec.ofChange convertSelfWrong)

/-- 'cornicelaw16.ConvertEta': WHATEVER THE INPUT: true; the input reads as it did. -/
def convertEtaSpec : ChangeSpec := { name := "convertEta", fn := fun _ => fun
  | [d1, d2, d3] => { results := [.lit (.bool true)], args := [d1, d2, d3] }
  | _ => none }
def convertEtaRow : OpenClaim := { program := "ytobgdeffhdefeaadoor", sum := "e0aa6478bd636dae49ce8c521a473e4b04f3df3677d75dce64644c866d8cfaae", func := "cornice/cornicelaw16.ConvertEta", spec := "convertEta", unfollowed := true, recurses := true, named := ["cornice/term.shapes"], apart := false, laid := [("cornice/term.shapes", laid_cornice_term_shapes)] }
def ConvertEtaSaid : Prop := convertEtaRow.holds Tryd.pinned (OpenSpec.ofChange convertEtaSpec)

/-- ITS FALSE NEIGHBOUR: 'it returns false'. Refute it at one input. -/
def convertEtaWrong : ChangeSpec := { name := "convertEta", fn := fun _ => fun
  | [d1, d2, d3] => { results := [.lit (.bool false)], args := [d1, d2, d3] }
  | _ => none }
def ConvertEtaWrongFalsely : Prop := convertEtaRow.holds Tryd.pinned (OpenSpec.ofChange convertEtaWrong)

/-- 'cornicelaw16.ConvertNumbers': WHATEVER THE INPUT: true; the input reads as it did. -/
def convertNumbersSpec : ChangeSpec := { name := "convertNumbers", fn := fun _ => fun
  | [d1, d2] => { results := [.lit (.bool true)], args := [d1, d2] }
  | _ => none }
def convertNumbersRow : OpenClaim := { program := "ytobgdeffhdefeaadoor", sum := "e0aa6478bd636dae49ce8c521a473e4b04f3df3677d75dce64644c866d8cfaae", func := "cornice/cornicelaw16.ConvertNumbers", spec := "convertNumbers", unfollowed := true, recurses := true, named := ["cornice/term.shapes"], apart := false, laid := [("cornice/term.shapes", laid_cornice_term_shapes)] }
def ConvertNumbersSaid : Prop := convertNumbersRow.holds Tryd.pinned (OpenSpec.ofChange convertNumbersSpec)

/-- ITS FALSE NEIGHBOUR: 'it returns false'. Refute it at one input. -/
def convertNumbersWrong : ChangeSpec := { name := "convertNumbers", fn := fun _ => fun
  | [d1, d2] => { results := [.lit (.bool false)], args := [d1, d2] }
  | _ => none }
def ConvertNumbersWrongFalsely : Prop := convertNumbersRow.holds Tryd.pinned (OpenSpec.ofChange convertNumbersWrong)

/-- 'cornicelaw11.EraseMoves': WHATEVER THE INPUT: true; the input reads as it did. -/
def eraseMovesSpec : ChangeSpec := { name := "eraseMoves", fn := fun _ => fun
  | [d1, d2, d3, d4] => { results := [.lit (.bool true)], args := [d1, d2, d3, d4] }
  | _ => none }
def eraseMovesRow : OpenClaim := { program := "ytobgdeffhdefeaadoor", sum := "e0aa6478bd636dae49ce8c521a473e4b04f3df3677d75dce64644c866d8cfaae", func := "cornice/cornicelaw11.EraseMoves", spec := "eraseMoves", inPlace := ["slices.overlaps[cornice/api.Node]"], unfollowed := true, recurses := true, named := ["cornice/term.shapes"], apart := false, laid := [("cornice/term.shapes", laid_cornice_term_shapes)] }
def EraseMovesSaid : Prop := eraseMovesRow.holds Tryd.pinned (OpenSpec.ofChange eraseMovesSpec)

/-- ITS FALSE NEIGHBOUR: 'it returns false'. Refute it at one input. -/
def eraseMovesWrong : ChangeSpec := { name := "eraseMoves", fn := fun _ => fun
  | [d1, d2, d3, d4] => { results := [.lit (.bool false)], args := [d1, d2, d3, d4] }
  | _ => none }
def EraseMovesWrongFalsely : Prop := eraseMovesRow.holds Tryd.pinned (OpenSpec.ofChange eraseMovesWrong)

/-- 'cornicelaw11.EraseParts': WHATEVER THE INPUT: true; the input reads as it did. -/
def erasePartsSpec : ChangeSpec := { name := "eraseParts", fn := fun _ => fun
  | [d] => { results := [.lit (.bool true)], args := [d] }
  | _ => none }
def erasePartsRow : OpenClaim := { program := "ytobgdeffhdefeaadoor", sum := "e0aa6478bd636dae49ce8c521a473e4b04f3df3677d75dce64644c866d8cfaae", func := "cornice/cornicelaw11.EraseParts", spec := "eraseParts", inPlace := ["slices.overlaps[cornice/api.Node]"], unfollowed := true, recurses := true, named := ["cornice/term.shapes"], apart := false, laid := [("cornice/term.shapes", laid_cornice_term_shapes)] }
def ErasePartsSaid : Prop := erasePartsRow.holds Tryd.pinned (OpenSpec.ofChange erasePartsSpec)

/-- ITS FALSE NEIGHBOUR: 'it returns false'. Refute it at one input. -/
def erasePartsWrong : ChangeSpec := { name := "eraseParts", fn := fun _ => fun
  | [d] => { results := [.lit (.bool false)], args := [d] }
  | _ => none }
def ErasePartsWrongFalsely : Prop := erasePartsRow.holds Tryd.pinned (OpenSpec.ofChange erasePartsWrong)

/-- 'cornicelaw11.EraseAlike': WHATEVER THE INPUT: true; the input reads as it did. -/
def eraseAlikeSpec : ChangeSpec := { name := "eraseAlike", fn := fun _ => fun
  | [d1, d2, d3] => { results := [.lit (.bool true)], args := [d1, d2, d3] }
  | _ => none }
def eraseAlikeRow : OpenClaim := { program := "ytobgdeffhdefeaadoor", sum := "e0aa6478bd636dae49ce8c521a473e4b04f3df3677d75dce64644c866d8cfaae", func := "cornice/cornicelaw11.EraseAlike", spec := "eraseAlike", inPlace := ["slices.overlaps[cornice/api.Node]"], unfollowed := true, recurses := true, named := ["cornice/term.shapes"], apart := false, laid := [("cornice/term.shapes", laid_cornice_term_shapes)] }
def EraseAlikeSaid : Prop := eraseAlikeRow.holds Tryd.pinned (OpenSpec.ofChange eraseAlikeSpec)

/-- ITS FALSE NEIGHBOUR: 'it returns false'. Refute it at one input. -/
def eraseAlikeWrong : ChangeSpec := { name := "eraseAlike", fn := fun _ => fun
  | [d1, d2, d3] => { results := [.lit (.bool false)], args := [d1, d2, d3] }
  | _ => none }
def EraseAlikeWrongFalsely : Prop := eraseAlikeRow.holds Tryd.pinned (OpenSpec.ofChange eraseAlikeWrong)

/-- 'cornicelaw13.CastrSelf': WHATEVER THE INPUT: true; the input reads as it did. -/
def castrSelfSpec : ChangeSpec := { name := "castrSelf", fn := fun _ => fun
  | [d1, d2, d3] => { results := [.lit (.bool true)], args := [d1, d2, d3] }
  | _ => none }
def castrSelfRow : OpenClaim := { program := "ytobgdeffhdefeaadoor", sum := "e0aa6478bd636dae49ce8c521a473e4b04f3df3677d75dce64644c866d8cfaae", func := "cornice/cornicelaw13.CastrSelf", spec := "castrSelf", unfollowed := true, recurses := true, named := ["cornice/term.shapes"], apart := false, laid := [("cornice/term.shapes", laid_cornice_term_shapes)] }
def CastrSelfSaid : Prop := castrSelfRow.holds Tryd.pinned (OpenSpec.ofChange castrSelfSpec)

/-- ITS FALSE NEIGHBOUR: 'it returns false'. Refute it at one input. -/
def castrSelfWrong : ChangeSpec := { name := "castrSelf", fn := fun _ => fun
  | [d1, d2, d3] => { results := [.lit (.bool false)], args := [d1, d2, d3] }
  | _ => none }
def CastrSelfWrongFalsely : Prop := castrSelfRow.holds Tryd.pinned (OpenSpec.ofChange castrSelfWrong)

/-- 'cornicelaw13.CastrMoves': WHATEVER THE INPUT: true; the input reads as it did. -/
def castrMovesSpec : ChangeSpec := { name := "castrMoves", fn := fun _ => fun
  | [d1, d2, d3, d4, d5] => { results := [.lit (.bool true)], args := [d1, d2, d3, d4, d5] }
  | _ => none }
def castrMovesRow : OpenClaim := { program := "ytobgdeffhdefeaadoor", sum := "e0aa6478bd636dae49ce8c521a473e4b04f3df3677d75dce64644c866d8cfaae", func := "cornice/cornicelaw13.CastrMoves", spec := "castrMoves", unfollowed := true, recurses := true, named := ["cornice/term.shapes"], apart := false, laid := [("cornice/term.shapes", laid_cornice_term_shapes)] }
def CastrMovesSaid : Prop := castrMovesRow.holds Tryd.pinned (OpenSpec.ofChange castrMovesSpec)

/-- ITS FALSE NEIGHBOUR: 'it returns false'. Refute it at one input. -/
def castrMovesWrong : ChangeSpec := { name := "castrMoves", fn := fun _ => fun
  | [d1, d2, d3, d4, d5] => { results := [.lit (.bool false)], args := [d1, d2, d3, d4, d5] }
  | _ => none }
def CastrMovesWrongFalsely : Prop := castrMovesRow.holds Tryd.pinned (OpenSpec.ofChange castrMovesWrong)

/-- 'cornicelaw13.CastrHeads': WHATEVER THE INPUT: true; the input reads as it did. -/
def castrHeadsSpec : ChangeSpec := { name := "castrHeads", fn := fun _ => fun
  | [d1, d2, d3] => { results := [.lit (.bool true)], args := [d1, d2, d3] }
  | _ => none }
def castrHeadsRow : OpenClaim := { program := "ytobgdeffhdefeaadoor", sum := "e0aa6478bd636dae49ce8c521a473e4b04f3df3677d75dce64644c866d8cfaae", func := "cornice/cornicelaw13.CastrHeads", spec := "castrHeads", unfollowed := true, recurses := true, named := ["cornice/term.shapes"], apart := false, laid := [("cornice/term.shapes", laid_cornice_term_shapes)] }
def CastrHeadsSaid : Prop := castrHeadsRow.holds Tryd.pinned (OpenSpec.ofChange castrHeadsSpec)

/-- ITS FALSE NEIGHBOUR: 'it returns false'. Refute it at one input. -/
def castrHeadsWrong : ChangeSpec := { name := "castrHeads", fn := fun _ => fun
  | [d1, d2, d3] => { results := [.lit (.bool false)], args := [d1, d2, d3] }
  | _ => none }
def CastrHeadsWrongFalsely : Prop := castrHeadsRow.holds Tryd.pinned (OpenSpec.ofChange castrHeadsWrong)

/-- 'cornicelaw13.CastrPairs': WHATEVER THE INPUT: true; the input reads as it did. -/
def castrPairsSpec : ChangeSpec := { name := "castrPairs", fn := fun _ => fun
  | [d1, d2, d3, d4, d5, d6] => { results := [.lit (.bool true)], args := [d1, d2, d3, d4, d5, d6] }
  | _ => none }
def castrPairsRow : OpenClaim := { program := "ytobgdeffhdefeaadoor", sum := "e0aa6478bd636dae49ce8c521a473e4b04f3df3677d75dce64644c866d8cfaae", func := "cornice/cornicelaw13.CastrPairs", spec := "castrPairs", unfollowed := true, recurses := true, named := ["cornice/term.shapes"], apart := false, laid := [("cornice/term.shapes", laid_cornice_term_shapes)] }
def CastrPairsSaid : Prop := castrPairsRow.holds Tryd.pinned (OpenSpec.ofChange castrPairsSpec)

/-- ITS FALSE NEIGHBOUR: 'it returns false'. Refute it at one input. -/
def castrPairsWrong : ChangeSpec := { name := "castrPairs", fn := fun _ => fun
  | [d1, d2, d3, d4, d5, d6] => { results := [.lit (.bool false)], args := [d1, d2, d3, d4, d5, d6] }
  | _ => none }
def CastrPairsWrongFalsely : Prop := castrPairsRow.holds Tryd.pinned (OpenSpec.ofChange castrPairsWrong)

/-- 'cornicelaw11.EraseTells': WHATEVER THE INPUT: true; the input reads as it did. -/
def eraseTellsSpec : ChangeSpec := { name := "eraseTells", fn := fun _ => fun
  | [d] => { results := [.lit (.bool true)], args := [d] }
  | _ => none }
def eraseTellsRow : OpenClaim := { program := "ytobgdeffhdefeaadoor", sum := "e0aa6478bd636dae49ce8c521a473e4b04f3df3677d75dce64644c866d8cfaae", func := "cornice/cornicelaw11.EraseTells", spec := "eraseTells", inPlace := ["slices.overlaps[cornice/api.Node]"], unfollowed := true, recurses := true, named := ["cornice/term.shapes"], apart := false, laid := [("cornice/term.shapes", laid_cornice_term_shapes)] }
def EraseTellsSaid : Prop := eraseTellsRow.holds Tryd.pinned (OpenSpec.ofChange eraseTellsSpec)

/-- ITS FALSE NEIGHBOUR: 'it returns false'. Refute it at one input. -/
def eraseTellsWrong : ChangeSpec := { name := "eraseTells", fn := fun _ => fun
  | [d] => { results := [.lit (.bool false)], args := [d] }
  | _ => none }
def EraseTellsWrongFalsely : Prop := eraseTellsRow.holds Tryd.pinned (OpenSpec.ofChange eraseTellsWrong)

/-- 'cornicelaw11.EraseTwice': WHATEVER THE INPUT: true; the input reads as it did. -/
def eraseTwiceSpec : ChangeSpec := { name := "eraseTwice", fn := fun _ => fun
  | [d] => { results := [.lit (.bool true)], args := [d] }
  | _ => none }
def eraseTwiceRow : OpenClaim := { program := "ytobgdeffhdefeaadoor", sum := "e0aa6478bd636dae49ce8c521a473e4b04f3df3677d75dce64644c866d8cfaae", func := "cornice/cornicelaw11.EraseTwice", spec := "eraseTwice", inPlace := ["slices.overlaps[cornice/api.Node]"], unfollowed := true, recurses := true, named := ["cornice/term.shapes"], apart := false, laid := [("cornice/term.shapes", laid_cornice_term_shapes)] }
def EraseTwiceSaid : Prop := eraseTwiceRow.holds Tryd.pinned (OpenSpec.ofChange eraseTwiceSpec)

/-- ITS FALSE NEIGHBOUR: 'it returns false'. Refute it at one input. -/
def eraseTwiceWrong : ChangeSpec := { name := "eraseTwice", fn := fun _ => fun
  | [d] => { results := [.lit (.bool false)], args := [d] }
  | _ => none }
def EraseTwiceWrongFalsely : Prop := eraseTwiceRow.holds Tryd.pinned (OpenSpec.ofChange eraseTwiceWrong)

/- THE SECOND FORM. 'bulk': how many values and letters a reading holds, each counted each time it is reached (what is shared counts as often as it is met; a slice's spare places count too). A statement '..UptoSaid' is the law's where the arguments, and the package variables that the reading takes, are together of bulk at most 1048576: NARROWER than '..Said'. Prove '..Said' where nothing that the law and all that it calls make is longer than what came in: it says more and counts as full. Else prove '..UptoSaid'. A law counts once. -/
mutual
def uptoBulk {H : Type} : DataW H → Nat
  | .lit (.string bytes) => bytes.length + 1
  | .lit _ => 1
  | .nil => 1
  | .ptr d => uptoBulk d + 1
  | .slice elems spare => uptoBulkAll elems + uptoBulkAll spare + 1
  | .agg parts => uptoBulkAll parts + 1
  | .iface _ d => uptoBulk d + 1
  | .map entries => uptoBulkEntries entries + 1
  | .held _ => 1
def uptoBulkAll {H : Type} : List (DataW H) → Nat
  | [] => 0
  | d :: r => uptoBulk d + uptoBulkAll r
def uptoBulkEntries {H : Type} : List (Lit × DataW H) → Nat
  | [] => 0
  | x :: r => uptoBulkEntry x + uptoBulkEntries r
def uptoBulkEntry {H : Type} : Lit × DataW H → Nat
  | (.string bytes, d) => bytes.length + uptoBulk d + 1
  | (_, d) => uptoBulk d + 1
 end
def uptoSmall : (H : Type) → List (DataW H) → Bool := fun _ ds => decide (uptoBulkAll ds ≤ 1048576)
def OpenSpec.upto (s : _root_.Go.ChangeSpec) : _root_.Go.OpenSpec := { _root_.Go.OpenSpec.ofChange s with cond := some uptoSmall }

/-- 'cornicelaw16.ConvertSelf', WHERE WHAT IT READS IS OF BULK AT MOST 1048576: true; the input reads as it did. -/
def convertSelfUptoRow : OpenClaim := { program := "ytobgdeffhdefeaadoor", sum := "e0aa6478bd636dae49ce8c521a473e4b04f3df3677d75dce64644c866d8cfaae", func := "cornice/cornicelaw16.ConvertSelf", spec := "convertSelf", unfollowed := true, recurses := true, named := ["cornice/term.shapes"], apart := false, laid := [("cornice/term.shapes", laid_cornice_term_shapes)], narrowed := true }
def ConvertSelfUptoSaid : Prop := convertSelfUptoRow.holds Tryd.pinned (OpenSpec.upto convertSelfSpec)

/-- 'cornicelaw16.ConvertEta', WHERE WHAT IT READS IS OF BULK AT MOST 1048576: true; the input reads as it did. -/
def convertEtaUptoRow : OpenClaim := { program := "ytobgdeffhdefeaadoor", sum := "e0aa6478bd636dae49ce8c521a473e4b04f3df3677d75dce64644c866d8cfaae", func := "cornice/cornicelaw16.ConvertEta", spec := "convertEta", unfollowed := true, recurses := true, named := ["cornice/term.shapes"], apart := false, laid := [("cornice/term.shapes", laid_cornice_term_shapes)], narrowed := true }
def ConvertEtaUptoSaid : Prop := convertEtaUptoRow.holds Tryd.pinned (OpenSpec.upto convertEtaSpec)

/-- 'cornicelaw16.ConvertNumbers', WHERE WHAT IT READS IS OF BULK AT MOST 1048576: true; the input reads as it did. -/
def convertNumbersUptoRow : OpenClaim := { program := "ytobgdeffhdefeaadoor", sum := "e0aa6478bd636dae49ce8c521a473e4b04f3df3677d75dce64644c866d8cfaae", func := "cornice/cornicelaw16.ConvertNumbers", spec := "convertNumbers", unfollowed := true, recurses := true, named := ["cornice/term.shapes"], apart := false, laid := [("cornice/term.shapes", laid_cornice_term_shapes)], narrowed := true }
def ConvertNumbersUptoSaid : Prop := convertNumbersUptoRow.holds Tryd.pinned (OpenSpec.upto convertNumbersSpec)

/-- 'cornicelaw11.EraseMoves', WHERE WHAT IT READS IS OF BULK AT MOST 1048576: true; the input reads as it did. -/
def eraseMovesUptoRow : OpenClaim := { program := "ytobgdeffhdefeaadoor", sum := "e0aa6478bd636dae49ce8c521a473e4b04f3df3677d75dce64644c866d8cfaae", func := "cornice/cornicelaw11.EraseMoves", spec := "eraseMoves", inPlace := ["slices.overlaps[cornice/api.Node]"], unfollowed := true, recurses := true, named := ["cornice/term.shapes"], apart := false, laid := [("cornice/term.shapes", laid_cornice_term_shapes)], narrowed := true }
def EraseMovesUptoSaid : Prop := eraseMovesUptoRow.holds Tryd.pinned (OpenSpec.upto eraseMovesSpec)

/-- 'cornicelaw11.EraseParts', WHERE WHAT IT READS IS OF BULK AT MOST 1048576: true; the input reads as it did. -/
def erasePartsUptoRow : OpenClaim := { program := "ytobgdeffhdefeaadoor", sum := "e0aa6478bd636dae49ce8c521a473e4b04f3df3677d75dce64644c866d8cfaae", func := "cornice/cornicelaw11.EraseParts", spec := "eraseParts", inPlace := ["slices.overlaps[cornice/api.Node]"], unfollowed := true, recurses := true, named := ["cornice/term.shapes"], apart := false, laid := [("cornice/term.shapes", laid_cornice_term_shapes)], narrowed := true }
def ErasePartsUptoSaid : Prop := erasePartsUptoRow.holds Tryd.pinned (OpenSpec.upto erasePartsSpec)

/-- 'cornicelaw11.EraseAlike', WHERE WHAT IT READS IS OF BULK AT MOST 1048576: true; the input reads as it did. -/
def eraseAlikeUptoRow : OpenClaim := { program := "ytobgdeffhdefeaadoor", sum := "e0aa6478bd636dae49ce8c521a473e4b04f3df3677d75dce64644c866d8cfaae", func := "cornice/cornicelaw11.EraseAlike", spec := "eraseAlike", inPlace := ["slices.overlaps[cornice/api.Node]"], unfollowed := true, recurses := true, named := ["cornice/term.shapes"], apart := false, laid := [("cornice/term.shapes", laid_cornice_term_shapes)], narrowed := true }
def EraseAlikeUptoSaid : Prop := eraseAlikeUptoRow.holds Tryd.pinned (OpenSpec.upto eraseAlikeSpec)

/-- 'cornicelaw13.CastrSelf', WHERE WHAT IT READS IS OF BULK AT MOST 1048576: true; the input reads as it did. -/
def castrSelfUptoRow : OpenClaim := { program := "ytobgdeffhdefeaadoor", sum := "e0aa6478bd636dae49ce8c521a473e4b04f3df3677d75dce64644c866d8cfaae", func := "cornice/cornicelaw13.CastrSelf", spec := "castrSelf", unfollowed := true, recurses := true, named := ["cornice/term.shapes"], apart := false, laid := [("cornice/term.shapes", laid_cornice_term_shapes)], narrowed := true }
def CastrSelfUptoSaid : Prop := castrSelfUptoRow.holds Tryd.pinned (OpenSpec.upto castrSelfSpec)

/-- 'cornicelaw13.CastrMoves', WHERE WHAT IT READS IS OF BULK AT MOST 1048576: true; the input reads as it did. -/
def castrMovesUptoRow : OpenClaim := { program := "ytobgdeffhdefeaadoor", sum := "e0aa6478bd636dae49ce8c521a473e4b04f3df3677d75dce64644c866d8cfaae", func := "cornice/cornicelaw13.CastrMoves", spec := "castrMoves", unfollowed := true, recurses := true, named := ["cornice/term.shapes"], apart := false, laid := [("cornice/term.shapes", laid_cornice_term_shapes)], narrowed := true }
def CastrMovesUptoSaid : Prop := castrMovesUptoRow.holds Tryd.pinned (OpenSpec.upto castrMovesSpec)

/-- 'cornicelaw13.CastrHeads', WHERE WHAT IT READS IS OF BULK AT MOST 1048576: true; the input reads as it did. -/
def castrHeadsUptoRow : OpenClaim := { program := "ytobgdeffhdefeaadoor", sum := "e0aa6478bd636dae49ce8c521a473e4b04f3df3677d75dce64644c866d8cfaae", func := "cornice/cornicelaw13.CastrHeads", spec := "castrHeads", unfollowed := true, recurses := true, named := ["cornice/term.shapes"], apart := false, laid := [("cornice/term.shapes", laid_cornice_term_shapes)], narrowed := true }
def CastrHeadsUptoSaid : Prop := castrHeadsUptoRow.holds Tryd.pinned (OpenSpec.upto castrHeadsSpec)

/-- 'cornicelaw13.CastrPairs', WHERE WHAT IT READS IS OF BULK AT MOST 1048576: true; the input reads as it did. -/
def castrPairsUptoRow : OpenClaim := { program := "ytobgdeffhdefeaadoor", sum := "e0aa6478bd636dae49ce8c521a473e4b04f3df3677d75dce64644c866d8cfaae", func := "cornice/cornicelaw13.CastrPairs", spec := "castrPairs", unfollowed := true, recurses := true, named := ["cornice/term.shapes"], apart := false, laid := [("cornice/term.shapes", laid_cornice_term_shapes)], narrowed := true }
def CastrPairsUptoSaid : Prop := castrPairsUptoRow.holds Tryd.pinned (OpenSpec.upto castrPairsSpec)

/-- 'cornicelaw11.EraseTells', WHERE WHAT IT READS IS OF BULK AT MOST 1048576: true; the input reads as it did. -/
def eraseTellsUptoRow : OpenClaim := { program := "ytobgdeffhdefeaadoor", sum := "e0aa6478bd636dae49ce8c521a473e4b04f3df3677d75dce64644c866d8cfaae", func := "cornice/cornicelaw11.EraseTells", spec := "eraseTells", inPlace := ["slices.overlaps[cornice/api.Node]"], unfollowed := true, recurses := true, named := ["cornice/term.shapes"], apart := false, laid := [("cornice/term.shapes", laid_cornice_term_shapes)], narrowed := true }
def EraseTellsUptoSaid : Prop := eraseTellsUptoRow.holds Tryd.pinned (OpenSpec.upto eraseTellsSpec)

/-- 'cornicelaw11.EraseTwice', WHERE WHAT IT READS IS OF BULK AT MOST 1048576: true; the input reads as it did. -/
def eraseTwiceUptoRow : OpenClaim := { program := "ytobgdeffhdefeaadoor", sum := "e0aa6478bd636dae49ce8c521a473e4b04f3df3677d75dce64644c866d8cfaae", func := "cornice/cornicelaw11.EraseTwice", spec := "eraseTwice", inPlace := ["slices.overlaps[cornice/api.Node]"], unfollowed := true, recurses := true, named := ["cornice/term.shapes"], apart := false, laid := [("cornice/term.shapes", laid_cornice_term_shapes)], narrowed := true }
def EraseTwiceUptoSaid : Prop := eraseTwiceUptoRow.holds Tryd.pinned (OpenSpec.upto eraseTwiceSpec)

end Rows
end Go.Proofs.YtobgdeffhdefeaaDoor
