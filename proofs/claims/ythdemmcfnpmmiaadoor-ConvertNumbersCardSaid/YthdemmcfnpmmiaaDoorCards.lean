/-
  DERIVED. GIVEN WITH THE SEED: THE CARDS: each row of YthdemmcfnpmmiaaDoorRows.lean that lists a variable, with what it lists TIED to the program's text (the seventh form; the later family's looks); each row that meets fmt, with fmt's text TOLD by the authors' own Lean function (tested against real Go, not proved from fmt's source: count such statements apart). THE CARD IS WHAT COUNTS. Prove the row's statement (the work); the ties are given (YthdemmcfnpmmiaaDoorTie.lean); close each card by the builder's one call (the guide's Derived/Test/ToyasCard.lean, 'card_holds'). Laid BY PROGRAM, IN A SANDBOX (cutbox-door.mjs). By AI agents, Wed Nov 11 2026. No macro, syntax, notation, axiom, sorry.
-/
import Derived.Test.YthdemmcfnpmmiaaDoorRows
import GoSem.ClaimSeven
namespace Go.Proofs.YthdemmcfnpmmiaaDoor
namespace Rows

/-- THE TIED CARD OF 'cornicelaw16.ConvertSelf'. -/
def convertSelfCard : Claim7 := { stood := { row := convertSelfRow, standIns := [], harness := (true, "eda60fe431b95d1f62b03565857e1b5de6d19454a35ff503cdde09bed9ac43ba"), looks := false }, kinds := [], alts := [], laidByText := true, laidKinds := [.widerDeep], laidTests := true, laidLooks := .later }
def ConvertSelfCardSaid : Prop := Claim7.holds Tryd.pinned (.plain (OpenSpec.ofChange convertSelfSpec)) convertSelfCard

/-- THE TIED CARD OF 'cornicelaw16.ConvertEta'. -/
def convertEtaCard : Claim7 := { stood := { row := convertEtaRow, standIns := [], harness := (true, "eda60fe431b95d1f62b03565857e1b5de6d19454a35ff503cdde09bed9ac43ba"), looks := false }, kinds := [], alts := [], laidByText := true, laidKinds := [.widerDeep], laidTests := true, laidLooks := .later }
def ConvertEtaCardSaid : Prop := Claim7.holds Tryd.pinned (.plain (OpenSpec.ofChange convertEtaSpec)) convertEtaCard

/-- THE TIED CARD OF 'cornicelaw16.ConvertNumbers'. -/
def convertNumbersCard : Claim7 := { stood := { row := convertNumbersRow, standIns := [], harness := (true, "eda60fe431b95d1f62b03565857e1b5de6d19454a35ff503cdde09bed9ac43ba"), looks := false }, kinds := [], alts := [], laidByText := true, laidKinds := [.widerDeep], laidTests := true, laidLooks := .later }
def ConvertNumbersCardSaid : Prop := Claim7.holds Tryd.pinned (.plain (OpenSpec.ofChange convertNumbersSpec)) convertNumbersCard

/-- THE SECOND FORM's CARD OF 'cornicelaw16.ConvertSelf'. -/
def convertSelfUptoCard : Claim7 := { stood := { row := convertSelfUptoRow, standIns := [], harness := (true, "eda60fe431b95d1f62b03565857e1b5de6d19454a35ff503cdde09bed9ac43ba"), looks := false }, kinds := [], alts := [], laidByText := true, laidKinds := [.widerDeep], laidTests := true, laidLooks := .later }
def ConvertSelfUptoCardSaid : Prop := Claim7.holds Tryd.pinned (.plain (OpenSpec.upto convertSelfSpec)) convertSelfUptoCard

/-- THE SECOND FORM's CARD OF 'cornicelaw16.ConvertEta'. -/
def convertEtaUptoCard : Claim7 := { stood := { row := convertEtaUptoRow, standIns := [], harness := (true, "eda60fe431b95d1f62b03565857e1b5de6d19454a35ff503cdde09bed9ac43ba"), looks := false }, kinds := [], alts := [], laidByText := true, laidKinds := [.widerDeep], laidTests := true, laidLooks := .later }
def ConvertEtaUptoCardSaid : Prop := Claim7.holds Tryd.pinned (.plain (OpenSpec.upto convertEtaSpec)) convertEtaUptoCard

/-- THE SECOND FORM's CARD OF 'cornicelaw16.ConvertNumbers'. -/
def convertNumbersUptoCard : Claim7 := { stood := { row := convertNumbersUptoRow, standIns := [], harness := (true, "eda60fe431b95d1f62b03565857e1b5de6d19454a35ff503cdde09bed9ac43ba"), looks := false }, kinds := [], alts := [], laidByText := true, laidKinds := [.widerDeep], laidTests := true, laidLooks := .later }
def ConvertNumbersUptoCardSaid : Prop := Claim7.holds Tryd.pinned (.plain (OpenSpec.upto convertNumbersSpec)) convertNumbersUptoCard
end Rows
end Go.Proofs.YthdemmcfnpmmiaaDoor
