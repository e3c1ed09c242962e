/-
  DERIVED. GIVEN WITH THE SEED: THE CARDS: each row of YtcfponnkfhkbdaaDoorRows.lean that lists a variable, with what it lists TIED to the program's text (the seventh form; the later family's looks); each row that meets fmt, with fmt's text TOLD by the authors' own Lean function (tested against real Go, not proved from fmt's source: count such statements apart). THE CARD IS WHAT COUNTS. Prove the row's statement (the work); the ties are given (YtcfponnkfhkbdaaDoorTie.lean); close each card by the builder's one call (the guide's Derived/Test/ToyasCard.lean, 'card_holds'). Laid BY PROGRAM, IN A SANDBOX (cutbox-door.mjs). By AI agents, Wed Nov 11 2026. No macro, syntax, notation, axiom, sorry.
-/
import Derived.Test.YtcfponnkfhkbdaaDoorRows
import GoSem.ClaimSeven
namespace Go.Proofs.YtcfponnkfhkbdaaDoor
namespace Rows

/-- THE TIED CARD OF 'cornicelaw14.UnfoldRules'. -/
def unfoldRulesCard : Claim7 := { stood := { row := unfoldRulesRow, standIns := [], harness := (true, "e10c24878638998b32206f05d5c3b594bde7a9bb6d1fa7757700e9e78024a0e0"), looks := false }, kinds := [], alts := [], laidByText := true, laidKinds := [.widerDeep], laidTests := true, laidLooks := .later }
def UnfoldRulesCardSaid : Prop := Claim7.holds Tryd.pinned (.plain (OpenSpec.ofChange unfoldRulesSpec)) unfoldRulesCard

/-- THE TIED CARD OF 'cornicelaw14.UnfoldMoves'. -/
def unfoldMovesCard : Claim7 := { stood := { row := unfoldMovesRow, standIns := [], harness := (true, "e10c24878638998b32206f05d5c3b594bde7a9bb6d1fa7757700e9e78024a0e0"), looks := false }, kinds := [], alts := [], laidByText := true, laidKinds := [.widerDeep], laidTests := true, laidLooks := .later }
def UnfoldMovesCardSaid : Prop := Claim7.holds Tryd.pinned (.plain (OpenSpec.ofChange unfoldMovesSpec)) unfoldMovesCard

/-- THE TIED CARD OF 'cornicelaw14.UnfoldNumbers'. -/
def unfoldNumbersCard : Claim7 := { stood := { row := unfoldNumbersRow, standIns := [], harness := (true, "e10c24878638998b32206f05d5c3b594bde7a9bb6d1fa7757700e9e78024a0e0"), looks := false }, kinds := [], alts := [], laidByText := true, laidKinds := [.widerDeep], laidTests := true, laidLooks := .later }
def UnfoldNumbersCardSaid : Prop := Claim7.holds Tryd.pinned (.plain (OpenSpec.ofChange unfoldNumbersSpec)) unfoldNumbersCard

/-- THE TIED CARD OF 'cornicelaw14.UnfoldPairs'. -/
def unfoldPairsCard : Claim7 := { stood := { row := unfoldPairsRow, standIns := [], harness := (true, "e10c24878638998b32206f05d5c3b594bde7a9bb6d1fa7757700e9e78024a0e0"), looks := false }, kinds := [], alts := [], laidByText := true, laidKinds := [.widerDeep], laidTests := true, laidLooks := .later }
def UnfoldPairsCardSaid : Prop := Claim7.holds Tryd.pinned (.plain (OpenSpec.ofChange unfoldPairsSpec)) unfoldPairsCard

/-- THE TIED CARD OF 'cornicelaw14.UnfoldElims'. -/
def unfoldElimsCard : Claim7 := { stood := { row := unfoldElimsRow, standIns := [], harness := (true, "e10c24878638998b32206f05d5c3b594bde7a9bb6d1fa7757700e9e78024a0e0"), looks := false }, kinds := [], alts := [], laidByText := true, laidKinds := [.widerDeep], laidTests := true, laidLooks := .later }
def UnfoldElimsCardSaid : Prop := Claim7.holds Tryd.pinned (.plain (OpenSpec.ofChange unfoldElimsSpec)) unfoldElimsCard

/-- THE TIED CARD OF 'cornicelaw14.UnfoldKinds'. -/
def unfoldKindsCard : Claim7 := { stood := { row := unfoldKindsRow, standIns := [], harness := (true, "e10c24878638998b32206f05d5c3b594bde7a9bb6d1fa7757700e9e78024a0e0"), looks := false }, kinds := [], alts := [], laidByText := true, laidKinds := [.widerDeep], laidTests := true, laidLooks := .later }
def UnfoldKindsCardSaid : Prop := Claim7.holds Tryd.pinned (.plain (OpenSpec.ofChange unfoldKindsSpec)) unfoldKindsCard

/-- THE TIED CARD OF 'cornicelaw12.EqualNumbers'. -/
def equalNumbersCard : Claim7 := { stood := { row := equalNumbersRow, standIns := [], harness := (true, "e10c24878638998b32206f05d5c3b594bde7a9bb6d1fa7757700e9e78024a0e0"), looks := false }, kinds := [], alts := [], laidByText := true, laidKinds := [.widerDeep], laidTests := true, laidLooks := .later }
def EqualNumbersCardSaid : Prop := Claim7.holds Tryd.pinned (.plain (OpenSpec.ofChange equalNumbersSpec)) equalNumbersCard

/-- THE SECOND FORM's CARD OF 'cornicelaw14.UnfoldRules'. -/
def unfoldRulesUptoCard : Claim7 := { stood := { row := unfoldRulesUptoRow, standIns := [], harness := (true, "e10c24878638998b32206f05d5c3b594bde7a9bb6d1fa7757700e9e78024a0e0"), looks := false }, kinds := [], alts := [], laidByText := true, laidKinds := [.widerDeep], laidTests := true, laidLooks := .later }
def UnfoldRulesUptoCardSaid : Prop := Claim7.holds Tryd.pinned (.plain (OpenSpec.upto unfoldRulesSpec)) unfoldRulesUptoCard

/-- THE SECOND FORM's CARD OF 'cornicelaw14.UnfoldMoves'. -/
def unfoldMovesUptoCard : Claim7 := { stood := { row := unfoldMovesUptoRow, standIns := [], harness := (true, "e10c24878638998b32206f05d5c3b594bde7a9bb6d1fa7757700e9e78024a0e0"), looks := false }, kinds := [], alts := [], laidByText := true, laidKinds := [.widerDeep], laidTests := true, laidLooks := .later }
def UnfoldMovesUptoCardSaid : Prop := Claim7.holds Tryd.pinned (.plain (OpenSpec.upto unfoldMovesSpec)) unfoldMovesUptoCard

/-- THE SECOND FORM's CARD OF 'cornicelaw14.UnfoldNumbers'. -/
def unfoldNumbersUptoCard : Claim7 := { stood := { row := unfoldNumbersUptoRow, standIns := [], harness := (true, "e10c24878638998b32206f05d5c3b594bde7a9bb6d1fa7757700e9e78024a0e0"), looks := false }, kinds := [], alts := [], laidByText := true, laidKinds := [.widerDeep], laidTests := true, laidLooks := .later }
def UnfoldNumbersUptoCardSaid : Prop := Claim7.holds Tryd.pinned (.plain (OpenSpec.upto unfoldNumbersSpec)) unfoldNumbersUptoCard

/-- THE SECOND FORM's CARD OF 'cornicelaw14.UnfoldPairs'. -/
def unfoldPairsUptoCard : Claim7 := { stood := { row := unfoldPairsUptoRow, standIns := [], harness := (true, "e10c24878638998b32206f05d5c3b594bde7a9bb6d1fa7757700e9e78024a0e0"), looks := false }, kinds := [], alts := [], laidByText := true, laidKinds := [.widerDeep], laidTests := true, laidLooks := .later }
def UnfoldPairsUptoCardSaid : Prop := Claim7.holds Tryd.pinned (.plain (OpenSpec.upto unfoldPairsSpec)) unfoldPairsUptoCard

/-- THE SECOND FORM's CARD OF 'cornicelaw14.UnfoldElims'. -/
def unfoldElimsUptoCard : Claim7 := { stood := { row := unfoldElimsUptoRow, standIns := [], harness := (true, "e10c24878638998b32206f05d5c3b594bde7a9bb6d1fa7757700e9e78024a0e0"), looks := false }, kinds := [], alts := [], laidByText := true, laidKinds := [.widerDeep], laidTests := true, laidLooks := .later }
def UnfoldElimsUptoCardSaid : Prop := Claim7.holds Tryd.pinned (.plain (OpenSpec.upto unfoldElimsSpec)) unfoldElimsUptoCard

/-- THE SECOND FORM's CARD OF 'cornicelaw14.UnfoldKinds'. -/
def unfoldKindsUptoCard : Claim7 := { stood := { row := unfoldKindsUptoRow, standIns := [], harness := (true, "e10c24878638998b32206f05d5c3b594bde7a9bb6d1fa7757700e9e78024a0e0"), looks := false }, kinds := [], alts := [], laidByText := true, laidKinds := [.widerDeep], laidTests := true, laidLooks := .later }
def UnfoldKindsUptoCardSaid : Prop := Claim7.holds Tryd.pinned (.plain (OpenSpec.upto unfoldKindsSpec)) unfoldKindsUptoCard

/-- THE SECOND FORM's CARD OF 'cornicelaw12.EqualNumbers'. -/
def equalNumbersUptoCard : Claim7 := { stood := { row := equalNumbersUptoRow, standIns := [], harness := (true, "e10c24878638998b32206f05d5c3b594bde7a9bb6d1fa7757700e9e78024a0e0"), looks := false }, kinds := [], alts := [], laidByText := true, laidKinds := [.widerDeep], laidTests := true, laidLooks := .later }
def EqualNumbersUptoCardSaid : Prop := Claim7.holds Tryd.pinned (.plain (OpenSpec.upto equalNumbersSpec)) equalNumbersUptoCard
end Rows
end Go.Proofs.YtcfponnkfhkbdaaDoor
