/- Answers of calls: F59598, F62691, F69198, F67311. -/
import Derived.Test.YtlflbbgilgjghaaGreatDoorData
import Derived.Test.YtlflbbgilgjghaaGreatDoorAxf
set_option linter.all false
set_option linter.unusedVariables false
set_option linter.unusedSimpArgs false
set_option maxRecDepth 10000000
namespace Go.AX
open Go Go.Proofs
theorem F59598_check : F59598.check Tryz.prog (orcT []) [] (lookN []) 100000 100 = true := by kernel_rfl
theorem F59598_ok : ∀ σ, Plain σ → FactOK Tryz.prog σ F59598 := Fact.checked noNumT mixedT (orcT_ok _) fsNil F59598_check
end Go.AX
set_option maxRecDepth 10000000
namespace Go.AX
open Go Go.Proofs
theorem F62691_check : F62691.check Tryz.prog (orcT []) [] (lookN []) 100000 100 = true := by kernel_rfl
theorem F62691_ok : ∀ σ, Plain σ → FactOK Tryz.prog σ F62691 := Fact.checked noNumT mixedT (orcT_ok _) fsNil F62691_check
end Go.AX
set_option maxRecDepth 10000000
namespace Go.AX
open Go Go.Proofs
theorem F69198_check : F69198.check Tryz.prog (orcT []) [] (lookN [(16056, ⟨[16055, 13733, 13729], [], 0, .i64⟩)]) 100000 100 = true := by kernel_rfl
theorem F69198_ok : ∀ σ, Plain σ → FactOK Tryz.prog σ F69198 := Fact.checked noNumT mixedT (orcT_ok _) fsNil F69198_check
end Go.AX
set_option maxRecDepth 10000000
namespace Go.AX
open Go Go.Proofs
theorem F67311_check : F67311.check Tryz.prog (orcT []) [F69198] (lookN [(15556, ⟨[15555, 13733, 13729], [], 0, .i64⟩)]) 100000 100 = true := by kernel_rfl
theorem F67311_ok : ∀ σ, Plain σ → FactOK Tryz.prog σ F67311 := Fact.checked noNumT mixedT (orcT_ok _) (fsCons F69198_ok fsNil) F67311_check
end Go.AX
