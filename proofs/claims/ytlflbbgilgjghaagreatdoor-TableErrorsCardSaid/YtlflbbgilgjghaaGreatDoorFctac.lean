/- Answers of calls: F20410, F7281, F4, F25912. -/
import Derived.Test.YtlflbbgilgjghaaGreatDoorData
import Derived.Test.YtlflbbgilgjghaaGreatDoorAxf
import Derived.Test.YtlflbbgilgjghaaGreatDoorFctab
import Derived.Test.YtlflbbgilgjghaaGreatDoorFctaa
set_option linter.all false
set_option linter.unusedVariables false
set_option linter.unusedSimpArgs false
set_option maxRecDepth 10000000
namespace Go.AX
open Go Go.Proofs
theorem F20410_check : F20410.check Tryz.prog (orcT [(6044, 6035)]) [] (lookN [(6035, ⟨[], [], 1, .i64⟩), (6583, ⟨[1008, 1004, 6526, 6558, 6574], [(1002, 8), (1003, 2)], 0, .i64⟩), (6650, ⟨[1008, 1004, 6609, 6617, 6613, 6625, 6621, 6633, 6629], [(1002, 8), (1003, 2)], 0, .i64⟩)]) 100000 100 = true := by kernel_rfl
theorem F20410_ok : ∀ σ, Plain σ → FactOK Tryz.prog σ F20410 := Fact.checked noNumT mixedT (orcT_ok _) fsNil F20410_check
end Go.AX
set_option maxRecDepth 10000000
namespace Go.AX
open Go Go.Proofs
theorem F7281_check : F7281.check Tryz.prog (orcT []) [F8196, F14390, F16474, F19442, F20410] (lookN []) 100000 100 = true := by kernel_rfl
theorem F7281_ok : ∀ σ, Plain σ → FactOK Tryz.prog σ F7281 := Fact.checked noNumT mixedT (orcT_ok _) (fsCons F8196_ok (fsCons F14390_ok (fsCons F16474_ok (fsCons F19442_ok (fsCons F20410_ok fsNil))))) F7281_check
end Go.AX
set_option maxRecDepth 10000000
namespace Go.AX
open Go Go.Proofs
theorem F4_check : F4.check Tryz.prog (orcT []) [F1493, F4436, F7281] (lookN [(1320, ⟨[1008, 1004, 1245, 1253, 1261, 1269, 1277, 1285, 1293, 1301], [(1002, 8), (1003, 2)], 0, .i64⟩), (1426, ⟨[1008, 1004, 1415, 1419], [(1002, 8), (1003, 2)], 0, .i64⟩), (2415, ⟨[1008, 1004, 2404, 2408], [(1002, 8), (1003, 2)], 0, .i64⟩)]) 100000 100 = true := by kernel_rfl
theorem F4_ok : ∀ σ, Plain σ → FactOK Tryz.prog σ F4 := Fact.checked noNumT mixedT (orcT_ok _) (fsCons F1493_ok (fsCons F4436_ok (fsCons F7281_ok fsNil))) F4_check
end Go.AX
set_option maxRecDepth 10000000
namespace Go.AX
open Go Go.Proofs
theorem F25912_check : F25912.check Tryz.prog (orcT []) [] (lookN []) 100000 100 = true := by kernel_rfl
theorem F25912_ok : ∀ σ, Plain σ → FactOK Tryz.prog σ F25912 := Fact.checked noNumT mixedT (orcT_ok _) fsNil F25912_check
end Go.AX
