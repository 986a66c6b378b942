/- Answers of calls: F41924, F39845, F44875, F51620. -/
import Derived.Test.YtlflbbgilgjghaaGreatDoorData
import Derived.Test.YtlflbbgilgjghaaGreatDoorAxf
set_option linter.all false
set_option linter.unusedVariables false
set_option linter.unusedSimpArgs false
set_option maxRecDepth 10000000
namespace Go.AX
open Go Go.Proofs
theorem F41924_check : F41924.check Tryz.prog (orcT []) [] (lookN [(10396, ⟨[1008, 1004, 10377, 10325, 10329, 10333, 10337, 10341, 10345, 10349], [(1002, 8), (1003, 2)], 0, .i64⟩), (10804, ⟨[1008, 1004, 10697, 10729, 10761, 10793], [(1002, 8), (1003, 2)], 0, .i64⟩), (10906, ⟨[10905, 6755, 6751], [], 0, .i64⟩)]) 100000 100 = true := by kernel_rfl
theorem F41924_ok : ∀ σ, Plain σ → FactOK Tryz.prog σ F41924 := Fact.checked noNumT mixedT (orcT_ok _) fsNil F41924_check
end Go.AX
set_option maxRecDepth 10000000
namespace Go.AX
open Go Go.Proofs
theorem F39845_check : F39845.check Tryz.prog (orcT []) [F41924] (lookN [(10125, ⟨[10124, 6755, 6751], [], 0, .i64⟩)]) 100000 100 = true := by kernel_rfl
theorem F39845_ok : ∀ σ, Plain σ → FactOK Tryz.prog σ F39845 := Fact.checked noNumT mixedT (orcT_ok _) (fsCons F41924_ok fsNil) F39845_check
end Go.AX
set_option maxRecDepth 10000000
namespace Go.AX
open Go Go.Proofs
theorem F44875_check : F44875.check Tryz.prog (orcT []) [] (lookN [(11382, ⟨[1008, 1004, 11275, 11307, 11339, 11371], [(1002, 8), (1003, 2)], 0, .i64⟩), (11470, ⟨[11469, 6755, 6751], [], 0, .i64⟩)]) 100000 100 = true := by kernel_rfl
theorem F44875_ok : ∀ σ, Plain σ → FactOK Tryz.prog σ F44875 := Fact.checked noNumT mixedT (orcT_ok _) fsNil F44875_check
end Go.AX
set_option maxRecDepth 10000000
namespace Go.AX
open Go Go.Proofs
theorem F51620_check : F51620.checkM Tryz.prog (orcT []) [] (lookN [(12130, ⟨[], [], 2, .i64⟩)]) 100000 100 = true := by kernel_rfl
theorem F51620_ok : ∀ σ, Plain σ → FactOK Tryz.prog σ F51620 := Fact.checkedM noNumT mixedT (orcT_ok _) fsNil F51620_check
end Go.AX
