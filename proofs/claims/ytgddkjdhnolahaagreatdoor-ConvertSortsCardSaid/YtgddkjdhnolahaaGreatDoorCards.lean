/-
  DERIVED. GIVEN WITH THE SEED: THE CARDS: each row of YtgddkjdhnolahaaGreatDoorRows.lean that lists a variable, with what it lists TIED to the program's text (the seventh form; the later family's looks); each row that meets fmt, with fmt's text TOLD by the authors' own Lean function (tested against real Go, not proved from fmt's source: count such statements apart). THE CARD IS WHAT COUNTS. Prove the row's statement (the work); the ties are given (YtgddkjdhnolahaaGreatDoorTie.lean); close each card by the builder's one call (the guide's Derived/Test/ToyasCard.lean, 'card_holds'). Laid BY PROGRAM, IN A SANDBOX (cutbox-door.mjs). By AI agents, Wed Nov 11 2026. No macro, syntax, notation, axiom, sorry.
-/
import Derived.Test.YtgddkjdhnolahaaGreatDoorRows
import GoSem.ClaimSeven
namespace Go.Proofs.YtgddkjdhnolahaaGreatDoor
namespace Rows

/-- THE TIED CARD OF 'cornicelaw16.ConvertSorts'. -/
def convertSortsCard : Claim7 := { stood := { row := convertSortsRow, standIns := [], harness := (true, "fb716605b3dd665e5af20bfb9d943cd0643c3197981942e0410923288e3afb27"), looks := false }, kinds := [], alts := [], laidByText := true, laidKinds := [.widerDeep], laidTests := true, laidLooks := .later }
def ConvertSortsCardSaid : Prop := Claim7.holds Tryz.pinned (.plain (OpenSpec.ofChange convertSortsSpec)) convertSortsCard

/-- THE SECOND FORM's CARD OF 'cornicelaw16.ConvertSorts'. -/
def convertSortsUptoCard : Claim7 := { stood := { row := convertSortsUptoRow, standIns := [], harness := (true, "fb716605b3dd665e5af20bfb9d943cd0643c3197981942e0410923288e3afb27"), looks := false }, kinds := [], alts := [], laidByText := true, laidKinds := [.widerDeep], laidTests := true, laidLooks := .later }
def ConvertSortsUptoCardSaid : Prop := Claim7.holds Tryz.pinned (.plain (OpenSpec.upto convertSortsSpec)) convertSortsUptoCard
end Rows
end Go.Proofs.YtgddkjdhnolahaaGreatDoor
