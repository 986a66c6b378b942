/- Answers of calls: F8196, F14390, F16474, F19442. -/
import Derived.Test.YtlflbbgilgjghaaGreatDoorData
import Derived.Test.YtlflbbgilgjghaaGreatDoorAxf
import Derived.Test.YtlflbbgilgjghaaGreatDoorFctaa
set_option linter.all false
set_option linter.unusedVariables false
set_option linter.unusedSimpArgs false
set_option maxRecDepth 10000000
namespace Go.AX
open Go Go.Proofs
theorem F8196_check : F8196.check Tryz.prog (orcT []) [F8268] (lookN [(4014, ⟨[1008, 1004, 3947, 3679, 3687, 3695, 3703, 3711, 3719, 3727, 3735, 3743, 3751, 3759, 3767, 3775, 3783, 3791, 3799, 3807, 3815, 3823, 3831, 3839, 3847, 3855, 3863, 3871, 3879, 3887, 3895, 3903, 3911, 3919], [(1002, 8), (1003, 2)], 0, .i64⟩)]) 100000 100 = true := by kernel_rfl
theorem F8196_ok : ∀ σ, Plain σ → FactOK Tryz.prog σ F8196 := Fact.checked noNumT mixedT (orcT_ok _) (fsCons F8268_ok fsNil) F8196_check
end Go.AX
set_option maxRecDepth 10000000
namespace Go.AX
open Go Go.Proofs
theorem F14390_check : F14390.check Tryz.prog (orcT []) [] (lookN [(4363, ⟨[1008, 1004, 4344, 4292, 4296, 4300, 4304, 4308, 4312, 4316], [(1002, 8), (1003, 2)], 0, .i64⟩), (4771, ⟨[1008, 1004, 4664, 4696, 4728, 4760], [(1002, 8), (1003, 2)], 0, .i64⟩)]) 100000 100 = true := by kernel_rfl
theorem F14390_ok : ∀ σ, Plain σ → FactOK Tryz.prog σ F14390 := Fact.checked noNumT mixedT (orcT_ok _) fsNil F14390_check
end Go.AX
set_option maxRecDepth 10000000
namespace Go.AX
open Go Go.Proofs
theorem F16474_check : F16474.check Tryz.prog (orcT []) [] (lookN [(4989, ⟨[1008, 1004, 4976, 4936, 4940, 4944, 4948], [(1002, 8), (1003, 2)], 0, .i64⟩), (5736, ⟨[1008, 1004, 5505, 5537, 5569, 5601, 5633, 5665, 5697, 5717], [(1002, 8), (1003, 2)], 0, .i64⟩)]) 100000 100 = true := by kernel_rfl
theorem F16474_ok : ∀ σ, Plain σ → FactOK Tryz.prog σ F16474 := Fact.checked noNumT mixedT (orcT_ok _) fsNil F16474_check
end Go.AX
set_option maxRecDepth 10000000
namespace Go.AX
open Go Go.Proofs
theorem F19442_check : F19442.check Tryz.prog (orcT []) [] (lookN []) 100000 100 = true := by kernel_rfl
theorem F19442_ok : ∀ σ, Plain σ → FactOK Tryz.prog σ F19442 := Fact.checked noNumT mixedT (orcT_ok _) fsNil F19442_check
end Go.AX
