/-
  DERIVED. GIVEN WITH THE SEED: THE CARDS: each row of YtfpmbneglnoojaaGreatDoorRows.lean that lists a variable, with what it lists TIED to the program's text (the seventh form; the later family's looks); each row that meets fmt, with fmt's text TOLD by the authors' own Lean function (tested against real Go, not proved from fmt's source: count such statements apart). THE CARD IS WHAT COUNTS. Prove the row's statement (the work); the ties are given (YtfpmbneglnoojaaGreatDoorTie.lean); close each card by the builder's one call (the guide's Derived/Test/ToyasCard.lean, 'card_holds'). Laid BY PROGRAM, IN A SANDBOX (cutbox-door.mjs). By AI agents, Wed Nov 11 2026. No macro, syntax, notation, axiom, sorry.
-/
import Derived.Test.YtfpmbneglnoojaaGreatDoorRows
import GoSem.ClaimSeven
namespace Go.Proofs.YtfpmbneglnoojaaGreatDoor
namespace Rows

/-- THE TIED CARD OF 'cornicetop.TopBools'. -/
def topBoolsCard : Claim7 := { stood := { row := topBoolsRow, standIns := [], harness := (true, "43f9a4f6b71d82b55dc47403d7c6ed7755005fca0f808a447a7f05efc7742229"), looks := true }, kinds := [], alts := [], goes := true, laidByText := true, laidKinds := [.data, .data, .data, .widerDeep, .sentinel, .sentinel], laidTests := true, laidLooks := .later }
def TopBoolsCardSaid : Prop := Claim7.holds Tryz.pinned (.plain (OpenSpec.ofChange topBoolsSpec)) topBoolsCard

/-- THE TIED CARD OF 'cornicetop.TopRefuses'. -/
def topRefusesCard : Claim7 := { stood := { row := topRefusesRow, standIns := [], harness := (true, "43f9a4f6b71d82b55dc47403d7c6ed7755005fca0f808a447a7f05efc7742229"), looks := true }, kinds := [], alts := [], goes := true, laidByText := true, laidKinds := [.data, .data, .data, .widerDeep, .sentinel, .sentinel], laidTests := true, laidLooks := .later }
def TopRefusesCardSaid : Prop := Claim7.holds Tryz.pinned (.plain (OpenSpec.ofChange topRefusesSpec)) topRefusesCard

/-- THE SECOND FORM's CARD OF 'cornicetop.TopBools'. -/
def topBoolsUptoCard : Claim7 := { stood := { row := topBoolsUptoRow, standIns := [], harness := (true, "43f9a4f6b71d82b55dc47403d7c6ed7755005fca0f808a447a7f05efc7742229"), looks := true }, kinds := [], alts := [], goes := true, laidByText := true, laidKinds := [.data, .data, .data, .widerDeep, .sentinel, .sentinel], laidTests := true, laidLooks := .later }
def TopBoolsUptoCardSaid : Prop := Claim7.holds Tryz.pinned (.plain (OpenSpec.upto topBoolsSpec)) topBoolsUptoCard

/-- THE SECOND FORM's CARD OF 'cornicetop.TopRefuses'. -/
def topRefusesUptoCard : Claim7 := { stood := { row := topRefusesUptoRow, standIns := [], harness := (true, "43f9a4f6b71d82b55dc47403d7c6ed7755005fca0f808a447a7f05efc7742229"), looks := true }, kinds := [], alts := [], goes := true, laidByText := true, laidKinds := [.data, .data, .data, .widerDeep, .sentinel, .sentinel], laidTests := true, laidLooks := .later }
def TopRefusesUptoCardSaid : Prop := Claim7.holds Tryz.pinned (.plain (OpenSpec.upto topRefusesSpec)) topRefusesUptoCard
end Rows
end Go.Proofs.YtfpmbneglnoojaaGreatDoor
