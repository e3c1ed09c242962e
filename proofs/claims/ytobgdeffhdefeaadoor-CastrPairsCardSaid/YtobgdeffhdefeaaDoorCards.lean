/-
  DERIVED. GIVEN WITH THE SEED: THE CARDS: each row of YtobgdeffhdefeaaDoorRows.lean that lists a variable, with what it lists TIED to the program's text (the seventh form; the later family's looks); each row that meets fmt, with fmt's text TOLD by the authors' own Lean function (tested against real Go, not proved from fmt's source: count such statements apart). THE CARD IS WHAT COUNTS. Prove the row's statement (the work); the ties are given (YtobgdeffhdefeaaDoorTie.lean); close each card by the builder's one call (the guide's Derived/Test/ToyasCard.lean, 'card_holds'). Laid BY PROGRAM, IN A SANDBOX (cutbox-door.mjs). By AI agents, Wed Nov 11 2026. No macro, syntax, notation, axiom, sorry.
-/
import Derived.Test.YtobgdeffhdefeaaDoorRows
import GoSem.ClaimSeven
namespace Go.Proofs.YtobgdeffhdefeaaDoor
namespace Rows

/-- THE TIED CARD OF 'cornicelaw16.ConvertSelf'. -/
def convertSelfCard : Claim7 := { stood := { row := convertSelfRow, standIns := [], harness := (true, "762ad907c56e770160f4a36c68d91a206790ce74deafeb5dd1e684a3803aadc7"), looks := false }, kinds := [], alts := [], laidByText := true, laidKinds := [.widerDeep], laidTests := true, laidLooks := .later }
def ConvertSelfCardSaid : Prop := Claim7.holds Tryd.pinned (.plain (OpenSpec.ofChange convertSelfSpec)) convertSelfCard

/-- THE TIED CARD OF 'cornicelaw16.ConvertEta'. -/
def convertEtaCard : Claim7 := { stood := { row := convertEtaRow, standIns := [], harness := (true, "762ad907c56e770160f4a36c68d91a206790ce74deafeb5dd1e684a3803aadc7"), looks := false }, kinds := [], alts := [], laidByText := true, laidKinds := [.widerDeep], laidTests := true, laidLooks := .later }
def ConvertEtaCardSaid : Prop := Claim7.holds Tryd.pinned (.plain (OpenSpec.ofChange convertEtaSpec)) convertEtaCard

/-- THE TIED CARD OF 'cornicelaw16.ConvertNumbers'. -/
def convertNumbersCard : Claim7 := { stood := { row := convertNumbersRow, standIns := [], harness := (true, "762ad907c56e770160f4a36c68d91a206790ce74deafeb5dd1e684a3803aadc7"), looks := false }, kinds := [], alts := [], laidByText := true, laidKinds := [.widerDeep], laidTests := true, laidLooks := .later }
def ConvertNumbersCardSaid : Prop := Claim7.holds Tryd.pinned (.plain (OpenSpec.ofChange convertNumbersSpec)) convertNumbersCard

/-- THE TIED CARD OF 'cornicelaw11.EraseMoves'. -/
def eraseMovesCard : Claim7 := { stood := { row := eraseMovesRow, standIns := [], harness := (true, "762ad907c56e770160f4a36c68d91a206790ce74deafeb5dd1e684a3803aadc7"), looks := false }, kinds := [], alts := [], laidByText := true, laidKinds := [.widerDeep], laidTests := true, laidLooks := .later }
def EraseMovesCardSaid : Prop := Claim7.holds Tryd.pinned (.plain (OpenSpec.ofChange eraseMovesSpec)) eraseMovesCard

/-- THE TIED CARD OF 'cornicelaw11.EraseParts'. -/
def erasePartsCard : Claim7 := { stood := { row := erasePartsRow, standIns := [], harness := (true, "762ad907c56e770160f4a36c68d91a206790ce74deafeb5dd1e684a3803aadc7"), looks := false }, kinds := [], alts := [], laidByText := true, laidKinds := [.widerDeep], laidTests := true, laidLooks := .later }
def ErasePartsCardSaid : Prop := Claim7.holds Tryd.pinned (.plain (OpenSpec.ofChange erasePartsSpec)) erasePartsCard

/-- THE TIED CARD OF 'cornicelaw11.EraseAlike'. -/
def eraseAlikeCard : Claim7 := { stood := { row := eraseAlikeRow, standIns := [], harness := (true, "762ad907c56e770160f4a36c68d91a206790ce74deafeb5dd1e684a3803aadc7"), looks := false }, kinds := [], alts := [], laidByText := true, laidKinds := [.widerDeep], laidTests := true, laidLooks := .later }
def EraseAlikeCardSaid : Prop := Claim7.holds Tryd.pinned (.plain (OpenSpec.ofChange eraseAlikeSpec)) eraseAlikeCard

/-- THE TIED CARD OF 'cornicelaw13.CastrSelf'. -/
def castrSelfCard : Claim7 := { stood := { row := castrSelfRow, standIns := [], harness := (true, "762ad907c56e770160f4a36c68d91a206790ce74deafeb5dd1e684a3803aadc7"), looks := false }, kinds := [], alts := [], laidByText := true, laidKinds := [.widerDeep], laidTests := true, laidLooks := .later }
def CastrSelfCardSaid : Prop := Claim7.holds Tryd.pinned (.plain (OpenSpec.ofChange castrSelfSpec)) castrSelfCard

/-- THE TIED CARD OF 'cornicelaw13.CastrMoves'. -/
def castrMovesCard : Claim7 := { stood := { row := castrMovesRow, standIns := [], harness := (true, "762ad907c56e770160f4a36c68d91a206790ce74deafeb5dd1e684a3803aadc7"), looks := false }, kinds := [], alts := [], laidByText := true, laidKinds := [.widerDeep], laidTests := true, laidLooks := .later }
def CastrMovesCardSaid : Prop := Claim7.holds Tryd.pinned (.plain (OpenSpec.ofChange castrMovesSpec)) castrMovesCard

/-- THE TIED CARD OF 'cornicelaw13.CastrHeads'. -/
def castrHeadsCard : Claim7 := { stood := { row := castrHeadsRow, standIns := [], harness := (true, "762ad907c56e770160f4a36c68d91a206790ce74deafeb5dd1e684a3803aadc7"), looks := false }, kinds := [], alts := [], laidByText := true, laidKinds := [.widerDeep], laidTests := true, laidLooks := .later }
def CastrHeadsCardSaid : Prop := Claim7.holds Tryd.pinned (.plain (OpenSpec.ofChange castrHeadsSpec)) castrHeadsCard

/-- THE TIED CARD OF 'cornicelaw13.CastrPairs'. -/
def castrPairsCard : Claim7 := { stood := { row := castrPairsRow, standIns := [], harness := (true, "762ad907c56e770160f4a36c68d91a206790ce74deafeb5dd1e684a3803aadc7"), looks := false }, kinds := [], alts := [], laidByText := true, laidKinds := [.widerDeep], laidTests := true, laidLooks := .later }
def CastrPairsCardSaid : Prop := Claim7.holds Tryd.pinned (.plain (OpenSpec.ofChange castrPairsSpec)) castrPairsCard

/-- THE TIED CARD OF 'cornicelaw11.EraseTells'. -/
def eraseTellsCard : Claim7 := { stood := { row := eraseTellsRow, standIns := [], harness := (true, "762ad907c56e770160f4a36c68d91a206790ce74deafeb5dd1e684a3803aadc7"), looks := false }, kinds := [], alts := [], laidByText := true, laidKinds := [.widerDeep], laidTests := true, laidLooks := .later }
def EraseTellsCardSaid : Prop := Claim7.holds Tryd.pinned (.plain (OpenSpec.ofChange eraseTellsSpec)) eraseTellsCard

/-- THE TIED CARD OF 'cornicelaw11.EraseTwice'. -/
def eraseTwiceCard : Claim7 := { stood := { row := eraseTwiceRow, standIns := [], harness := (true, "762ad907c56e770160f4a36c68d91a206790ce74deafeb5dd1e684a3803aadc7"), looks := false }, kinds := [], alts := [], laidByText := true, laidKinds := [.widerDeep], laidTests := true, laidLooks := .later }
def EraseTwiceCardSaid : Prop := Claim7.holds Tryd.pinned (.plain (OpenSpec.ofChange eraseTwiceSpec)) eraseTwiceCard

/-- THE SECOND FORM's CARD OF 'cornicelaw16.ConvertSelf'. -/
def convertSelfUptoCard : Claim7 := { stood := { row := convertSelfUptoRow, standIns := [], harness := (true, "762ad907c56e770160f4a36c68d91a206790ce74deafeb5dd1e684a3803aadc7"), looks := false }, kinds := [], alts := [], laidByText := true, laidKinds := [.widerDeep], laidTests := true, laidLooks := .later }
def ConvertSelfUptoCardSaid : Prop := Claim7.holds Tryd.pinned (.plain (OpenSpec.upto convertSelfSpec)) convertSelfUptoCard

/-- THE SECOND FORM's CARD OF 'cornicelaw16.ConvertEta'. -/
def convertEtaUptoCard : Claim7 := { stood := { row := convertEtaUptoRow, standIns := [], harness := (true, "762ad907c56e770160f4a36c68d91a206790ce74deafeb5dd1e684a3803aadc7"), looks := false }, kinds := [], alts := [], laidByText := true, laidKinds := [.widerDeep], laidTests := true, laidLooks := .later }
def ConvertEtaUptoCardSaid : Prop := Claim7.holds Tryd.pinned (.plain (OpenSpec.upto convertEtaSpec)) convertEtaUptoCard

/-- THE SECOND FORM's CARD OF 'cornicelaw16.ConvertNumbers'. -/
def convertNumbersUptoCard : Claim7 := { stood := { row := convertNumbersUptoRow, standIns := [], harness := (true, "762ad907c56e770160f4a36c68d91a206790ce74deafeb5dd1e684a3803aadc7"), looks := false }, kinds := [], alts := [], laidByText := true, laidKinds := [.widerDeep], laidTests := true, laidLooks := .later }
def ConvertNumbersUptoCardSaid : Prop := Claim7.holds Tryd.pinned (.plain (OpenSpec.upto convertNumbersSpec)) convertNumbersUptoCard

/-- THE SECOND FORM's CARD OF 'cornicelaw11.EraseMoves'. -/
def eraseMovesUptoCard : Claim7 := { stood := { row := eraseMovesUptoRow, standIns := [], harness := (true, "762ad907c56e770160f4a36c68d91a206790ce74deafeb5dd1e684a3803aadc7"), looks := false }, kinds := [], alts := [], laidByText := true, laidKinds := [.widerDeep], laidTests := true, laidLooks := .later }
def EraseMovesUptoCardSaid : Prop := Claim7.holds Tryd.pinned (.plain (OpenSpec.upto eraseMovesSpec)) eraseMovesUptoCard

/-- THE SECOND FORM's CARD OF 'cornicelaw11.EraseParts'. -/
def erasePartsUptoCard : Claim7 := { stood := { row := erasePartsUptoRow, standIns := [], harness := (true, "762ad907c56e770160f4a36c68d91a206790ce74deafeb5dd1e684a3803aadc7"), looks := false }, kinds := [], alts := [], laidByText := true, laidKinds := [.widerDeep], laidTests := true, laidLooks := .later }
def ErasePartsUptoCardSaid : Prop := Claim7.holds Tryd.pinned (.plain (OpenSpec.upto erasePartsSpec)) erasePartsUptoCard

/-- THE SECOND FORM's CARD OF 'cornicelaw11.EraseAlike'. -/
def eraseAlikeUptoCard : Claim7 := { stood := { row := eraseAlikeUptoRow, standIns := [], harness := (true, "762ad907c56e770160f4a36c68d91a206790ce74deafeb5dd1e684a3803aadc7"), looks := false }, kinds := [], alts := [], laidByText := true, laidKinds := [.widerDeep], laidTests := true, laidLooks := .later }
def EraseAlikeUptoCardSaid : Prop := Claim7.holds Tryd.pinned (.plain (OpenSpec.upto eraseAlikeSpec)) eraseAlikeUptoCard

/-- THE SECOND FORM's CARD OF 'cornicelaw13.CastrSelf'. -/
def castrSelfUptoCard : Claim7 := { stood := { row := castrSelfUptoRow, standIns := [], harness := (true, "762ad907c56e770160f4a36c68d91a206790ce74deafeb5dd1e684a3803aadc7"), looks := false }, kinds := [], alts := [], laidByText := true, laidKinds := [.widerDeep], laidTests := true, laidLooks := .later }
def CastrSelfUptoCardSaid : Prop := Claim7.holds Tryd.pinned (.plain (OpenSpec.upto castrSelfSpec)) castrSelfUptoCard

/-- THE SECOND FORM's CARD OF 'cornicelaw13.CastrMoves'. -/
def castrMovesUptoCard : Claim7 := { stood := { row := castrMovesUptoRow, standIns := [], harness := (true, "762ad907c56e770160f4a36c68d91a206790ce74deafeb5dd1e684a3803aadc7"), looks := false }, kinds := [], alts := [], laidByText := true, laidKinds := [.widerDeep], laidTests := true, laidLooks := .later }
def CastrMovesUptoCardSaid : Prop := Claim7.holds Tryd.pinned (.plain (OpenSpec.upto castrMovesSpec)) castrMovesUptoCard

/-- THE SECOND FORM's CARD OF 'cornicelaw13.CastrHeads'. -/
def castrHeadsUptoCard : Claim7 := { stood := { row := castrHeadsUptoRow, standIns := [], harness := (true, "762ad907c56e770160f4a36c68d91a206790ce74deafeb5dd1e684a3803aadc7"), looks := false }, kinds := [], alts := [], laidByText := true, laidKinds := [.widerDeep], laidTests := true, laidLooks := .later }
def CastrHeadsUptoCardSaid : Prop := Claim7.holds Tryd.pinned (.plain (OpenSpec.upto castrHeadsSpec)) castrHeadsUptoCard

/-- THE SECOND FORM's CARD OF 'cornicelaw13.CastrPairs'. -/
def castrPairsUptoCard : Claim7 := { stood := { row := castrPairsUptoRow, standIns := [], harness := (true, "762ad907c56e770160f4a36c68d91a206790ce74deafeb5dd1e684a3803aadc7"), looks := false }, kinds := [], alts := [], laidByText := true, laidKinds := [.widerDeep], laidTests := true, laidLooks := .later }
def CastrPairsUptoCardSaid : Prop := Claim7.holds Tryd.pinned (.plain (OpenSpec.upto castrPairsSpec)) castrPairsUptoCard

/-- THE SECOND FORM's CARD OF 'cornicelaw11.EraseTells'. -/
def eraseTellsUptoCard : Claim7 := { stood := { row := eraseTellsUptoRow, standIns := [], harness := (true, "762ad907c56e770160f4a36c68d91a206790ce74deafeb5dd1e684a3803aadc7"), looks := false }, kinds := [], alts := [], laidByText := true, laidKinds := [.widerDeep], laidTests := true, laidLooks := .later }
def EraseTellsUptoCardSaid : Prop := Claim7.holds Tryd.pinned (.plain (OpenSpec.upto eraseTellsSpec)) eraseTellsUptoCard

/-- THE SECOND FORM's CARD OF 'cornicelaw11.EraseTwice'. -/
def eraseTwiceUptoCard : Claim7 := { stood := { row := eraseTwiceUptoRow, standIns := [], harness := (true, "762ad907c56e770160f4a36c68d91a206790ce74deafeb5dd1e684a3803aadc7"), looks := false }, kinds := [], alts := [], laidByText := true, laidKinds := [.widerDeep], laidTests := true, laidLooks := .later }
def EraseTwiceUptoCardSaid : Prop := Claim7.holds Tryd.pinned (.plain (OpenSpec.upto eraseTwiceSpec)) eraseTwiceUptoCard
end Rows
end Go.Proofs.YtobgdeffhdefeaaDoor
