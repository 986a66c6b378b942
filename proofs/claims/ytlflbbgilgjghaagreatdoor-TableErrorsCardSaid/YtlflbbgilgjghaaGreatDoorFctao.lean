/- Answers of calls: F126065, F2. -/
import Derived.Test.YtlflbbgilgjghaaGreatDoorData
import Derived.Test.YtlflbbgilgjghaaGreatDoorAxf
import Derived.Test.YtlflbbgilgjghaaGreatDoorFctaj
import Derived.Test.YtlflbbgilgjghaaGreatDoorFctam
import Derived.Test.YtlflbbgilgjghaaGreatDoorFctan
set_option linter.all false
set_option linter.unusedVariables false
set_option linter.unusedSimpArgs false
set_option maxRecDepth 10000000
namespace Go.AX
open Go Go.Proofs
theorem F126065_check : F126065.check Tryz.prog (orcT []) [] (lookN []) 100000 100 = true := by kernel_rfl
theorem F126065_ok : ∀ σ, Plain σ → FactOK Tryz.prog σ F126065 := Fact.checked noNumT mixedT (orcT_ok _) fsNil F126065_check
end Go.AX
set_option maxRecDepth 10000000
namespace Go.AX
open Go Go.Proofs
theorem F2_check : F2.check Tryz.prog (orcT []) [F3, F91079, F115413, F116251, F120319, F124003, F124691, F125379, F126065] (lookN []) 100000 100 = true := by kernel_rfl
theorem F2_ok : ∀ σ, Plain σ → FactOK Tryz.prog σ F2 := Fact.checked noNumT mixedT (orcT_ok _) (fsCons F3_ok (fsCons F91079_ok (fsCons F115413_ok (fsCons F116251_ok (fsCons F120319_ok (fsCons F124003_ok (fsCons F124691_ok (fsCons F125379_ok (fsCons F126065_ok fsNil))))))))) F2_check
end Go.AX
