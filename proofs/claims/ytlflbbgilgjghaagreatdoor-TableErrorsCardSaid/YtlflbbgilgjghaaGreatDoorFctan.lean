/- Answers of calls: F120319, F124003, F124691, F125379. -/
import Derived.Test.YtlflbbgilgjghaaGreatDoorData
import Derived.Test.YtlflbbgilgjghaaGreatDoorAxf
set_option linter.all false
set_option linter.unusedVariables false
set_option linter.unusedSimpArgs false
set_option maxRecDepth 10000000
namespace Go.AX
open Go Go.Proofs
theorem F120319_check : F120319.check Tryz.prog (orcT []) [] (lookN []) 100000 100 = true := by kernel_rfl
theorem F120319_ok : ∀ σ, Plain σ → FactOK Tryz.prog σ F120319 := Fact.checked noNumT mixedT (orcT_ok _) fsNil F120319_check
end Go.AX
set_option maxRecDepth 10000000
namespace Go.AX
open Go Go.Proofs
theorem F124003_check : F124003.check Tryz.prog (orcT []) [] (lookN []) 100000 100 = true := by kernel_rfl
theorem F124003_ok : ∀ σ, Plain σ → FactOK Tryz.prog σ F124003 := Fact.checked noNumT mixedT (orcT_ok _) fsNil F124003_check
end Go.AX
set_option maxRecDepth 10000000
namespace Go.AX
open Go Go.Proofs
theorem F124691_check : F124691.check Tryz.prog (orcT []) [] (lookN []) 100000 100 = true := by kernel_rfl
theorem F124691_ok : ∀ σ, Plain σ → FactOK Tryz.prog σ F124691 := Fact.checked noNumT mixedT (orcT_ok _) fsNil F124691_check
end Go.AX
set_option maxRecDepth 10000000
namespace Go.AX
open Go Go.Proofs
theorem F125379_check : F125379.check Tryz.prog (orcT []) [] (lookN []) 100000 100 = true := by kernel_rfl
theorem F125379_ok : ∀ σ, Plain σ → FactOK Tryz.prog σ F125379 := Fact.checked noNumT mixedT (orcT_ok _) fsNil F125379_check
end Go.AX
