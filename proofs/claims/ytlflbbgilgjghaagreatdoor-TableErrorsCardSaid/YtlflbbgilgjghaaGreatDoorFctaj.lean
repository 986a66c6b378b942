/- Answers of calls: F85768, F3, F92568, F96174. -/
import Derived.Test.YtlflbbgilgjghaaGreatDoorData
import Derived.Test.YtlflbbgilgjghaaGreatDoorAxf
import Derived.Test.YtlflbbgilgjghaaGreatDoorFctai
import Derived.Test.YtlflbbgilgjghaaGreatDoorFctac
import Derived.Test.YtlflbbgilgjghaaGreatDoorFctad
import Derived.Test.YtlflbbgilgjghaaGreatDoorFctaf
import Derived.Test.YtlflbbgilgjghaaGreatDoorFctah
set_option linter.all false
set_option linter.unusedVariables false
set_option linter.unusedSimpArgs false
set_option maxRecDepth 10000000
namespace Go.AX
open Go Go.Proofs
theorem F85768_check : F85768.check Tryz.prog (orcT []) [F88037] (lookN []) 100000 100 = true := by kernel_rfl
theorem F85768_ok : ∀ σ, Plain σ → FactOK Tryz.prog σ F85768 := Fact.checked noNumT mixedT (orcT_ok _) (fsCons F88037_ok fsNil) F85768_check
end Go.AX
set_option maxRecDepth 10000000
namespace Go.AX
open Go Go.Proofs
theorem F3_check : F3.check Tryz.prog (orcT []) [F4, F24410, F39100, F52483, F57828, F77158, F80218, F85768] (lookN [(12221, ⟨[12220, 6755, 6751], [], 0, .i64⟩)]) 100000 100 = true := by kernel_rfl
theorem F3_ok : ∀ σ, Plain σ → FactOK Tryz.prog σ F3 := Fact.checked noNumT mixedT (orcT_ok _) (fsCons F4_ok (fsCons F24410_ok (fsCons F39100_ok (fsCons F52483_ok (fsCons F57828_ok (fsCons F77158_ok (fsCons F80218_ok (fsCons F85768_ok fsNil)))))))) F3_check
end Go.AX
set_option maxRecDepth 10000000
namespace Go.AX
open Go Go.Proofs
theorem F92568_check : F92568.check Tryz.prog (orcT []) [] (lookN []) 100000 100 = true := by kernel_rfl
theorem F92568_ok : ∀ σ, Plain σ → FactOK Tryz.prog σ F92568 := Fact.checked noNumT mixedT (orcT_ok _) fsNil F92568_check
end Go.AX
set_option maxRecDepth 10000000
namespace Go.AX
open Go Go.Proofs
theorem F96174_check : F96174.check Tryz.prog (orcT []) [] (lookN []) 100000 100 = true := by kernel_rfl
theorem F96174_ok : ∀ σ, Plain σ → FactOK Tryz.prog σ F96174 := Fact.checked noNumT mixedT (orcT_ok _) fsNil F96174_check
end Go.AX
