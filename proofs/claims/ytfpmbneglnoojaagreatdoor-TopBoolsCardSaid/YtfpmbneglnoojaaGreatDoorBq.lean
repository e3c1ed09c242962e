/- Closed facts of the program that the row asks for, part 1. -/
import Derived.Test.YtfpmbneglnoojaaGreatDoorRows
import Derived.Conc.LeavingOf
set_option linter.all false
/- Closed facts of the program that the row asks for, part 1. -/
namespace Go.Proofs.YtfpmbneglnoojaaGreatDoor.lawTopBools
open Go Go.Proofs Go.Proofs.YtfpmbneglnoojaaGreatDoor
set_option maxRecDepth 100000
set_option linter.unusedVariables false
theorem j0 : (let P := Tryz.pinned.checked.prog; let f := 3; let fn := Tryz.f3; let s := Rows.topBoolsSpec; let c := Rows.topBoolsRow; c.wf (OpenSpec.ofChange s)) = true := by kernel_rfl
theorem j1 : (let P := Tryz.pinned.checked.prog; let f := 3; let fn := Tryz.f3; let s := Rows.topBoolsSpec; let c := Rows.topBoolsRow; laidOutB P) = true := by kernel_rfl
theorem j2 : (let P := Tryz.pinned.checked.prog; let f := 3; let fn := Tryz.f3; let s := Rows.topBoolsSpec; let c := Rows.topBoolsRow; mapsRowed P) = true := by kernel_rfl
theorem j3 : (let P := Tryz.pinned.checked.prog; let f := 3; let fn := Tryz.f3; let s := Rows.topBoolsSpec; let c := Rows.topBoolsRow; fn.params.all (P.readableRec ·)) = true := by kernel_rfl
theorem j4 : (let P := Tryz.pinned.checked.prog; let f := 3; let fn := Tryz.f3; let s := Rows.topBoolsSpec; let c := Rows.topBoolsRow; namedTie P c.named s.vars) = true := by kernel_rfl
theorem j5 : (let P := Tryz.pinned.checked.prog; let f := 3; let fn := Tryz.f3; let s := Rows.topBoolsSpec; let c := Rows.topBoolsRow; (c.stops == [])) = true := by kernel_rfl
theorem j6 : (let P := Tryz.pinned.checked.prog; let f := 3; let fn := Tryz.f3; let s := Rows.topBoolsSpec; let c := Rows.topBoolsRow; (P.stops == [])) = true := by kernel_rfl
theorem j7 : (let P := Tryz.pinned.checked.prog; let f := 3; let fn := Tryz.f3; let s := Rows.topBoolsSpec; let c := Rows.topBoolsRow; (c.knobs == [])) = true := by kernel_rfl
theorem j8 : (let P := Tryz.pinned.checked.prog; let f := 3; let fn := Tryz.f3; let s := Rows.topBoolsSpec; let c := Rows.topBoolsRow; (P.stopKnobs == [])) = true := by kernel_rfl
theorem j13 : (let P := Tryz.pinned.checked.prog; let f := 3; let fn := Tryz.f3; let s := Rows.topBoolsSpec; let c := Rows.topBoolsRow; (c.maps == (fn.params.toList ++ s.plain.varTypes P).any (P.mapsRec ·))) = true := by kernel_rfl
theorem j14 : (let P := Tryz.pinned.checked.prog; let f := 3; let fn := Tryz.f3; let s := Rows.topBoolsSpec; let c := Rows.topBoolsRow; (c.ifaces == (fn.params.toList ++ s.plain.varTypes P).any (P.ifacesRec ·))) = true := by kernel_rfl
theorem j15 : (let P := Tryz.pinned.checked.prog; let f := 3; let fn := Tryz.f3; let s := Rows.topBoolsSpec; let c := Rows.topBoolsRow; (c.mapsOut == P.mapsAmong fn.resultTypes.toList)) = true := by kernel_rfl
theorem j16 : (let P := Tryz.pinned.checked.prog; let f := 3; let fn := Tryz.f3; let s := Rows.topBoolsSpec; let c := Rows.topBoolsRow; (c.loops == (fn.params.toList ++ s.plain.varTypes P).any (P.loopsFrom ·))) = true := by kernel_rfl
theorem j17 : (let P := Tryz.pinned.checked.prog; let f := 3; let fn := Tryz.f3; let s := Rows.topBoolsSpec; let c := Rows.topBoolsRow; (c.wideKeys == (fn.params.toList ++ s.plain.varTypes P ++ fn.resultTypes.toList).any (P.wideKeysFrom ·))) = true := by kernel_rfl
theorem j18 : (let P := Tryz.pinned.checked.prog; let f := 3; let fn := Tryz.f3; let s := Rows.topBoolsSpec; let c := Rows.topBoolsRow; s.vars.all (P.varReadable ·)) = true := by kernel_rfl
theorem j19 : (let P := Tryz.pinned.checked.prog; let f := 3; let fn := Tryz.f3; let s := Rows.topBoolsSpec; let c := Rows.topBoolsRow; fn.resultTypes.all (fun t => P.readableRec t && decide (t < P.types.size))) = true := by kernel_rfl
theorem j20 : (let P := Tryz.pinned.checked.prog; let f := 3; let fn := Tryz.f3; let s := Rows.topBoolsSpec; let c := Rows.topBoolsRow; (c.ifacesOut == fn.resultTypes.toList.any (P.ifacesRec ·))) = true := by kernel_rfl
theorem j21 : (let P := Tryz.pinned.checked.prog; let f := 3; let fn := Tryz.f3; let s := Rows.topBoolsSpec; let c := Rows.topBoolsRow; (c.loopsOut == fn.resultTypes.toList.any (P.loopsFrom ·))) = true := by kernel_rfl
theorem j22 : (let P := Tryz.pinned.checked.prog; let f := 3; let fn := Tryz.f3; let s := Rows.topBoolsSpec; let c := Rows.topBoolsRow; (c.plainKeys == P.plainKeys)) = true := by kernel_rfl
theorem j23 : (let P := Tryz.pinned.checked.prog; let f := 3; let fn := Tryz.f3; let s := Rows.topBoolsSpec; let c := Rows.topBoolsRow; c.shortTexts.isNone) = true := by kernel_rfl
theorem j24 : (let P := Tryz.pinned.checked.prog; let f := 3; let fn := Tryz.f3; let s := Rows.topBoolsSpec; let c := Rows.topBoolsRow; P.stopsHeard) = true := by kernel_rfl
theorem j25 : (let P := Tryz.pinned.checked.prog; let f := 3; let fn := Tryz.f3; let s := Rows.topBoolsSpec; let c := Rows.topBoolsRow; P.mayEnter) = true := by kernel_rfl
theorem j26 : (let P := Tryz.pinned.checked.prog; let f := 3; let fn := Tryz.f3; let s := Rows.topBoolsSpec; let c := Rows.topBoolsRow; (c.lifted == P.liftsFinal)) = true := by kernel_rfl
theorem j27 : (let P := Tryz.pinned.checked.prog; let f := 3; let fn := Tryz.f3; let s := Rows.topBoolsSpec; let c := Rows.topBoolsRow; (P.make == some c.make)) = true := by kernel_rfl
theorem j28 : (let P := Tryz.pinned.checked.prog; let f := 3; let fn := Tryz.f3; let s := Rows.topBoolsSpec; let c := Rows.topBoolsRow; (c.kinds == (if c.domain.isEmpty then [] else fn.params.toList.map fun t => match P.underlying t with | some (.int k) => some k | _ => none))) = true := by kernel_rfl
theorem j29 : (let P := Tryz.pinned.checked.prog; let f := 3; let fn := Tryz.f3; let s := Rows.topBoolsSpec; let c := Rows.topBoolsRow; (c.pinned == c.pinnedBy)) = true := by kernel_rfl
theorem j30 : (let P := Tryz.pinned.checked.prog; let f := 3; let fn := Tryz.f3; let s := Rows.topBoolsSpec; let c := Rows.topBoolsRow; (c.veiled == (fn.params.toList ++ s.plain.varTypes P ++ fn.resultTypes.toList).any (P.veiledRec ·))) = true := by kernel_rfl
theorem j31 : (let P := Tryz.pinned.checked.prog; let f := 3; let fn := Tryz.f3; let s := Rows.topBoolsSpec; let c := Rows.topBoolsRow; c.veiledFits P fn.params.toList (fn.params.toList ++ s.plain.varTypes P ++ fn.resultTypes.toList)) = true := by kernel_rfl
end Go.Proofs.YtfpmbneglnoojaaGreatDoor.lawTopBools
