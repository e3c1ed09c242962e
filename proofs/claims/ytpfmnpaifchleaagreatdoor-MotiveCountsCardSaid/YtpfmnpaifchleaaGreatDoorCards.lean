/-
  DERIVED. GIVEN WITH THE SEED: THE CARDS: each row of YtpfmnpaifchleaaGreatDoorRows.lean that lists a variable, with what it lists TIED to the program's text (the seventh form; the later family's looks); each row that meets fmt, with fmt's text TOLD by the authors' own Lean function (tested against real Go, not proved from fmt's source: count such statements apart). THE CARD IS WHAT COUNTS. Prove the row's statement (the work); the ties are given (YtpfmnpaifchleaaGreatDoorTie.lean); close each card by the builder's one call (the guide's Derived/Test/ToyasCard.lean, 'card_holds'). Laid BY PROGRAM, IN A SANDBOX (cutbox-door.mjs). By AI agents, Wed Nov 11 2026. No macro, syntax, notation, axiom, sorry.
-/
import Derived.Test.YtpfmnpaifchleaaGreatDoorRows
import GoSem.ClaimSeven
namespace Go.Proofs.YtpfmnpaifchleaaGreatDoor
namespace Rows

/-- THE TIED CARD OF 'cornicelaw18.MotiveCounts'. -/
def motiveCountsCard : Claim7 := { stood := { row := motiveCountsRow, standIns := [], harness := (true, "66101f1244247c3e43d6017f8e641d6e5da51aeb6fbb32333895eb305c33a5d5"), looks := false }, kinds := [], alts := [], laidByText := true, laidKinds := [.widerDeep], laidTests := true, laidLooks := .later }
def MotiveCountsCardSaid : Prop := Claim7.holds Tryz.pinned (.plain (OpenSpec.ofChange motiveCountsSpec)) motiveCountsCard

/-- THE TIED CARD OF 'cornicelaw18.MotiveClosed'. -/
def motiveClosedCard : Claim7 := { stood := { row := motiveClosedRow, standIns := [], harness := (true, "66101f1244247c3e43d6017f8e641d6e5da51aeb6fbb32333895eb305c33a5d5"), looks := false }, kinds := [], alts := [], laidByText := true, laidKinds := [.widerDeep], laidTests := true, laidLooks := .later }
def MotiveClosedCardSaid : Prop := Claim7.holds Tryz.pinned (.plain (OpenSpec.ofChange motiveClosedSpec)) motiveClosedCard

/-- THE SECOND FORM's CARD OF 'cornicelaw18.MotiveCounts'. -/
def motiveCountsUptoCard : Claim7 := { stood := { row := motiveCountsUptoRow, standIns := [], harness := (true, "66101f1244247c3e43d6017f8e641d6e5da51aeb6fbb32333895eb305c33a5d5"), looks := false }, kinds := [], alts := [], laidByText := true, laidKinds := [.widerDeep], laidTests := true, laidLooks := .later }
def MotiveCountsUptoCardSaid : Prop := Claim7.holds Tryz.pinned (.plain (OpenSpec.upto motiveCountsSpec)) motiveCountsUptoCard

/-- THE SECOND FORM's CARD OF 'cornicelaw18.MotiveClosed'. -/
def motiveClosedUptoCard : Claim7 := { stood := { row := motiveClosedUptoRow, standIns := [], harness := (true, "66101f1244247c3e43d6017f8e641d6e5da51aeb6fbb32333895eb305c33a5d5"), looks := false }, kinds := [], alts := [], laidByText := true, laidKinds := [.widerDeep], laidTests := true, laidLooks := .later }
def MotiveClosedUptoCardSaid : Prop := Claim7.holds Tryz.pinned (.plain (OpenSpec.upto motiveClosedSpec)) motiveClosedUptoCard
end Rows
end Go.Proofs.YtpfmnpaifchleaaGreatDoor
