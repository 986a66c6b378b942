/- Answers of calls: F72509, F74835, F62690, F57828. -/
import Derived.Test.YtlflbbgilgjghaaGreatDoorData
import Derived.Test.YtlflbbgilgjghaaGreatDoorAxf
import Derived.Test.YtlflbbgilgjghaaGreatDoorFctag
set_option linter.all false
set_option linter.unusedVariables false
set_option linter.unusedSimpArgs false
set_option maxRecDepth 10000000
namespace Go.AX
open Go Go.Proofs
theorem F72509_check : F72509.check Tryz.prog (orcT []) [] (lookN []) 100000 100 = true := by kernel_rfl
theorem F72509_ok : ∀ σ, Plain σ → FactOK Tryz.prog σ F72509 := Fact.checked noNumT mixedT (orcT_ok _) fsNil F72509_check
end Go.AX
set_option maxRecDepth 10000000
namespace Go.AX
open Go Go.Proofs
theorem F74835_check : F74835.check Tryz.prog (orcT []) [] (lookN []) 100000 100 = true := by kernel_rfl
theorem F74835_ok : ∀ σ, Plain σ → FactOK Tryz.prog σ F74835 := Fact.checked noNumT mixedT (orcT_ok _) fsNil F74835_check
end Go.AX
set_option maxRecDepth 10000000
namespace Go.AX
open Go Go.Proofs
theorem F62690_check : F62690.check Tryz.prog (orcT []) [F62691, F67311, F72509, F74835] (lookN []) 100000 100 = true := by kernel_rfl
theorem F62690_ok : ∀ σ, Plain σ → FactOK Tryz.prog σ F62690 := Fact.checked noNumT mixedT (orcT_ok _) (fsCons F62691_ok (fsCons F67311_ok (fsCons F72509_ok (fsCons F74835_ok fsNil)))) F62690_check
end Go.AX
set_option maxRecDepth 10000000
namespace Go.AX
open Go Go.Proofs
theorem F57828_check : F57828.check Tryz.prog (orcT []) [F59598, F62690] (lookN []) 100000 100 = true := by kernel_rfl
theorem F57828_ok : ∀ σ, Plain σ → FactOK Tryz.prog σ F57828 := Fact.checked noNumT mixedT (orcT_ok _) (fsCons F59598_ok (fsCons F62690_ok fsNil)) F57828_check
end Go.AX
