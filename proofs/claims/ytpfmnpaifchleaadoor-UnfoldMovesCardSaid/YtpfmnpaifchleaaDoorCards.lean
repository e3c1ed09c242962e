/-
  DERIVED. GIVEN WITH THE SEED: THE CARDS: each row of YtpfmnpaifchleaaDoorRows.lean that lists a variable, with what it lists TIED to the program's text (the seventh form; the later family's looks); each row that meets fmt, with fmt's text TOLD by the authors' own Lean function (tested against real Go, not proved from fmt's source: count such statements apart). THE CARD IS WHAT COUNTS. Prove the row's statement (the work); the ties are given (YtpfmnpaifchleaaDoorTie.lean); close each card by the builder's one call (the guide's Derived/Test/ToyasCard.lean, 'card_holds'). Laid BY PROGRAM, IN A SANDBOX (cutbox-door.mjs). By AI agents, Wed Nov 11 2026. No macro, syntax, notation, axiom, sorry.
-/
import Derived.Test.YtpfmnpaifchleaaDoorRows
import GoSem.ClaimSeven
namespace Go.Proofs.YtpfmnpaifchleaaDoor
namespace Rows

/-- THE TIED CARD OF 'cornicelaw14.UnfoldRules'. -/
def unfoldRulesCard : Claim7 := { stood := { row := unfoldRulesRow, standIns := [], harness := (true, "60f81ee5c5e7ba1188f6c1c796ac9414edcc99c0fc3dcbe113a3f8a2020058ce"), looks := false }, kinds := [], alts := [], laidByText := true, laidKinds := [.widerDeep], laidTests := true, laidLooks := .later }
def UnfoldRulesCardSaid : Prop := Claim7.holds Tryd.pinned (.plain (OpenSpec.ofChange unfoldRulesSpec)) unfoldRulesCard

/-- THE TIED CARD OF 'cornicelaw14.UnfoldMoves'. -/
def unfoldMovesCard : Claim7 := { stood := { row := unfoldMovesRow, standIns := [], harness := (true, "60f81ee5c5e7ba1188f6c1c796ac9414edcc99c0fc3dcbe113a3f8a2020058ce"), looks := false }, kinds := [], alts := [], laidByText := true, laidKinds := [.widerDeep], laidTests := true, laidLooks := .later }
def UnfoldMovesCardSaid : Prop := Claim7.holds Tryd.pinned (.plain (OpenSpec.ofChange unfoldMovesSpec)) unfoldMovesCard

/-- THE SECOND FORM's CARD OF 'cornicelaw14.UnfoldRules'. -/
def unfoldRulesUptoCard : Claim7 := { stood := { row := unfoldRulesUptoRow, standIns := [], harness := (true, "60f81ee5c5e7ba1188f6c1c796ac9414edcc99c0fc3dcbe113a3f8a2020058ce"), looks := false }, kinds := [], alts := [], laidByText := true, laidKinds := [.widerDeep], laidTests := true, laidLooks := .later }
def UnfoldRulesUptoCardSaid : Prop := Claim7.holds Tryd.pinned (.plain (OpenSpec.upto unfoldRulesSpec)) unfoldRulesUptoCard

/-- THE SECOND FORM's CARD OF 'cornicelaw14.UnfoldMoves'. -/
def unfoldMovesUptoCard : Claim7 := { stood := { row := unfoldMovesUptoRow, standIns := [], harness := (true, "60f81ee5c5e7ba1188f6c1c796ac9414edcc99c0fc3dcbe113a3f8a2020058ce"), looks := false }, kinds := [], alts := [], laidByText := true, laidKinds := [.widerDeep], laidTests := true, laidLooks := .later }
def UnfoldMovesUptoCardSaid : Prop := Claim7.holds Tryd.pinned (.plain (OpenSpec.upto unfoldMovesSpec)) unfoldMovesUptoCard
end Rows
end Go.Proofs.YtpfmnpaifchleaaDoor
