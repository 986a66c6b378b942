/- Closed facts of the row. -/
import Derived.Test.YtlflbbgilgjghaaGreatDoorClo
import Derived.JoinedOf
set_option linter.all false
set_option linter.unusedVariables false
set_option linter.unusedSimpArgs false
namespace Go.Proofs.YtlflbbgilgjghaaGreatDoor
open Go
set_option maxRecDepth 1000000
theorem k1 : (Rows.tableErrorsRow.wf (OpenSpec.ofChange Rows.tableErrorsSpec)) = true := by kernel_rfl
theorem k4 : (Tryz.f3.params.all (Tryz.prog.readableRec ·)) = true := by kernel_rfl
theorem k5 : (namedTie Tryz.prog Rows.tableErrorsRow.named Rows.tableErrorsSpec.vars) = true := by kernel_rfl
theorem k6 : ((Rows.tableErrorsRow.stops == [])) = true := by kernel_rfl
theorem k7 : ((Tryz.prog.stops == [])) = true := by kernel_rfl
theorem k8 : ((Rows.tableErrorsRow.knobs == [])) = true := by kernel_rfl
theorem k9 : ((Tryz.prog.stopKnobs == [])) = true := by kernel_rfl
theorem k14 : ((Rows.tableErrorsRow.maps == (Tryz.f3.params.toList ++ Rows.tableErrorsSpec.plain.varTypes Tryz.prog).any (Tryz.prog.mapsRec ·))) = true := by kernel_rfl
theorem k15 : ((Rows.tableErrorsRow.ifaces == (Tryz.f3.params.toList ++ Rows.tableErrorsSpec.plain.varTypes Tryz.prog).any (Tryz.prog.ifacesRec ·))) = true := by kernel_rfl
theorem k16 : ((Rows.tableErrorsRow.mapsOut == Tryz.prog.mapsAmong Tryz.f3.resultTypes.toList)) = true := by kernel_rfl
theorem k17 : ((Rows.tableErrorsRow.loops == (Tryz.f3.params.toList ++ Rows.tableErrorsSpec.plain.varTypes Tryz.prog).any (Tryz.prog.loopsFrom ·))) = true := by kernel_rfl
theorem k18 : ((Rows.tableErrorsRow.wideKeys == (Tryz.f3.params.toList ++ Rows.tableErrorsSpec.plain.varTypes Tryz.prog ++ Tryz.f3.resultTypes.toList).any (Tryz.prog.wideKeysFrom ·))) = true := by kernel_rfl
theorem k19 : (Rows.tableErrorsSpec.vars.all (Tryz.prog.varReadable ·)) = true := by kernel_rfl
theorem k20 : (Tryz.f3.resultTypes.all (fun t => Tryz.prog.readableRec t && decide (t < Tryz.prog.types.size))) = true := by kernel_rfl
theorem k21 : ((Rows.tableErrorsRow.ifacesOut == Tryz.f3.resultTypes.toList.any (Tryz.prog.ifacesRec ·))) = true := by kernel_rfl
theorem k22 : ((Rows.tableErrorsRow.loopsOut == Tryz.f3.resultTypes.toList.any (Tryz.prog.loopsFrom ·))) = true := by kernel_rfl
theorem k24 : (Rows.tableErrorsRow.shortTexts.isNone) = true := by kernel_rfl
theorem k25 : (Tryz.prog.stopsHeard) = true := by kernel_rfl
theorem k26 : (Tryz.prog.mayEnter) = true := by kernel_rfl
theorem k27 : ((Rows.tableErrorsRow.lifted == Tryz.prog.liftsFinal)) = true := by kernel_rfl
theorem k28 : ((Tryz.prog.make == some Rows.tableErrorsRow.make)) = true := by kernel_rfl
theorem k30 : ((Rows.tableErrorsRow.pinned == Rows.tableErrorsRow.pinnedBy)) = true := by kernel_rfl
theorem k31 : ((Rows.tableErrorsRow.veiled == (Tryz.f3.params.toList ++ Rows.tableErrorsSpec.plain.varTypes Tryz.prog ++ Tryz.f3.resultTypes.toList).any (Tryz.prog.veiledRec ·))) = true := by kernel_rfl
theorem k32 : (Rows.tableErrorsRow.veiledFits Tryz.prog Tryz.f3.params.toList (Tryz.f3.params.toList ++ Rows.tableErrorsSpec.plain.varTypes Tryz.prog ++ Tryz.f3.resultTypes.toList)) = true := by kernel_rfl
theorem k23 : (Rows.tableErrorsRow.plainKeys == Tryz.prog.plainKeys) = true := by rw [show Tryz.prog.plainKeys = true from closed0.2.2]; rfl
end Go.Proofs.YtlflbbgilgjghaaGreatDoor
