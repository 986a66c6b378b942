/- Answers of calls: F1493, F5099, F4436, F8268. -/
import Derived.Test.YtlflbbgilgjghaaGreatDoorData
import Derived.Test.YtlflbbgilgjghaaGreatDoorAxf
set_option linter.all false
set_option linter.unusedVariables false
set_option linter.unusedSimpArgs false
set_option maxRecDepth 10000000
namespace Go.AX
open Go Go.Proofs
theorem F1493_check : F1493.check Tryz.prog (orcT []) [] (lookN []) 100000 100 = true := by kernel_rfl
theorem F1493_ok : ∀ σ, Plain σ → FactOK Tryz.prog σ F1493 := Fact.checked noNumT mixedT (orcT_ok _) fsNil F1493_check
end Go.AX
set_option maxRecDepth 10000000
namespace Go.AX
open Go Go.Proofs
theorem F5099_check : F5099.check Tryz.prog (orcT []) [] (lookN []) 100000 100 = true := by kernel_rfl
theorem F5099_ok : ∀ σ, Plain σ → FactOK Tryz.prog σ F5099 := Fact.checked noNumT mixedT (orcT_ok _) fsNil F5099_check
end Go.AX
set_option maxRecDepth 10000000
namespace Go.AX
open Go Go.Proofs
theorem F4436_check : F4436.check Tryz.prog (orcT []) [F5099] (lookN []) 100000 100 = true := by kernel_rfl
theorem F4436_ok : ∀ σ, Plain σ → FactOK Tryz.prog σ F4436 := Fact.checked noNumT mixedT (orcT_ok _) (fsCons F5099_ok fsNil) F4436_check
end Go.AX
set_option maxRecDepth 10000000
namespace Go.AX
open Go Go.Proofs
theorem F8268_check : F8268.check Tryz.prog (orcT []) [] (lookN []) 100000 100 = true := by kernel_rfl
theorem F8268_ok : ∀ σ, Plain σ → FactOK Tryz.prog σ F8268 := Fact.checked noNumT mixedT (orcT_ok _) fsNil F8268_check
end Go.AX
