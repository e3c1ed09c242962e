/- Closed facts of the program that the row asks for, part 2. -/
import Derived.Test.YtfpmbneglnoojaaGreatDoorRows
import Derived.Conc.LeavingOf
set_option linter.all false
/- Closed facts of the program that the row asks for, part 2. -/
namespace Go.Proofs.YtfpmbneglnoojaaGreatDoor.lawTopBools
open Go Go.Proofs Go.Proofs.YtfpmbneglnoojaaGreatDoor
set_option maxRecDepth 100000
set_option linter.unusedVariables false
theorem j9 : (let P := Tryz.pinned.checked.prog; let f := 3; let fn := Tryz.f3; let s := Rows.topBoolsSpec; let c := Rows.topBoolsRow; (c.inPlace == P.inPlace f)) = true := by kernel_rfl
theorem j10 : (let P := Tryz.pinned.checked.prog; let f := 3; let fn := Tryz.f3; let s := Rows.topBoolsSpec; let c := Rows.topBoolsRow; (c.unfollowed == P.unfollowed f)) = true := by kernel_rfl
end Go.Proofs.YtfpmbneglnoojaaGreatDoor.lawTopBools
