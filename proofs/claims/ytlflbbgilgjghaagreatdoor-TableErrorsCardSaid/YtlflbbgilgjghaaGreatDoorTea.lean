/- The tie: its facts. -/
import Derived.Test.YtlflbbgilgjghaaGreatDoorRows
import Derived.KernelRfl
import Derived.LaidByTextLater
import Derived.SevenTiedAt
set_option linter.all false
set_option linter.unusedVariables false
set_option linter.unusedSimpArgs false
namespace Go.Proofs.YtlflbbgilgjghaaGreatDoor
open Go
set_option maxRecDepth 1000000 in
theorem t0 : Tryz.prog.worded (varsWordLater true) = true := by kernel_rfl
end Go.Proofs.YtlflbbgilgjghaaGreatDoor
namespace Go.Proofs.YtlflbbgilgjghaaGreatDoor
open Go
set_option maxRecDepth 1000000 in
theorem t1 : Tryz.prog.worded (varsWordLater !true) = false := by kernel_rfl
end Go.Proofs.YtlflbbgilgjghaaGreatDoor
namespace Go.Proofs.YtlflbbgilgjghaaGreatDoor
open Go
set_option maxRecDepth 1000000 in
theorem t2 : Tryz.prog.worded rootWordLater = true := by kernel_rfl
end Go.Proofs.YtlflbbgilgjghaaGreatDoor
